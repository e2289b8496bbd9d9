/-
  The coroots' lines by the first text: contracts by walks.
-/
import Derived.Test.YtbmnnbglipkidaaGreatDoorFct
import Derived.Test.YtbmnnbglipkidaaGreatDoorWSmp
import Derived.Test.YtbmnnbglipkidaaGreatDoorZ25
namespace Go.Proofs.YtbmnnbglipkidaaGreatDoor
set_option maxRecDepth 100000
set_option linter.unusedVariables false
set_option linter.unusedSimpArgs false
open Go.RowKit
theorem ent24:∀ us w,(callFunc 24 us).run Tryz.prog w = .ok (.enter 24 us) w:=fun us w=>by kernel_rfl
theorem ent76:∀ us w,(callFunc 76 us).run Tryz.prog w = .ok (.enter 76 us) w:=fun us w=>by kernel_rfl
theorem ent131:∀ us w,(callFunc 131 us).run Tryz.prog w = .ok (.enter 131 us) w:=fun us w=>by kernel_rfl
theorem ent169:∀ us w,(callFunc 169 us).run Tryz.prog w = .ok (.enter 169 us) w:=fun us w=>by kernel_rfl
theorem unit28_w {W:World}{own:List Asn}{n:Int}{i:Int}(hn:0≤n∧n≤64)(hi:0≤i∧i<n):Spec Tryz.prog 75 [.int .i64 (n),.int .i64 (i)] W own (fun v ow=>∃ (r0:Value),v=r0∧IsS r0∧ow=ints 3 r0 (unitL n.toNat i.toNat)::own):=by
 refine Spec.enter Tryz.f75 _ Tryz.func75 rfl (n:=12) rfl rfl ?_
 refine Zs (Zr (Za rfl (Zn (Zt (Zs (Zr (Zm rfl (G.step (OG.makeInts rfl et22 rfl rfl (by omega)) rfl rfl rfl ?_))))))))
 rintro v1 _ ⟨hs2,rfl⟩
 refine Za rfl (Zn (Zt (Zs (Zr (Zm rfl (Zm rfl (Zd (OD.indexAddr rfl et22 rfl (Ent.ints (i:=0) rfl) rfl (by first | omega | (simp only[List.length_set,List.length_replicate];omega))) rfl ?_)))))))
 refine G.stepD0 (OD.storeInt rfl ti3 rfl rfl (i:=0) rfl (by first | omega | (simp only[List.length_set,List.length_replicate];omega))) rfl rfl ?_
 refine Zn (Zt (Zs (Zr (Zm rfl (Za rfl (Zn (Zt (GC.ret ?_))))))))
 exact GE.body [] 0 (res1 rfl rfl) rfl (⟨v1,rfl,hs2,congrArg (fun(l0:List Int)=>ints 3 v1 l0::own) ((unitL_set (by omega):(List.replicate (n:Int).toNat (0:Int)).set ((i:Int).toNat) (1)=unitL n.toNat i.toNat))⟩)
theorem concat_w {W:World}{own:List Asn}{vx:Value}{ux:List Value}{x:List (List Int)}(sx:IsS vx)(ex:Ent own fun w=>Sl w vx x.length 1 ux)(mx:∀ k,k<x.length→Ent own fun w=>Ints w (ux.getD k undef) (x.getD k []))(lx:ux.length=x.length)(ax:AllS ux)(hxl:x.length≤64)(hle:∀ k,k<x.length→(x.getD k []).length≤64):Spec Tryz.prog 131 [vx] W own (fun v ow=>∃ (r0:Value),v=r0∧IsS r0∧ow=ints 3 r0 x.flatten::own):=by
 refine Spec.enter Tryz.f131 _ Tryz.func131 rfl (n:=36) rfl rfl ?_
 refine Zs (Zr (Za rfl (Zn (Zt (Zs (Zr (Za rfl (Zn (Zt (Zs (Zs (Zr (Zm rfl (Zd (OD.len rfl rfl et60 rfl ex) rfl ?_))))))))))))))
 refine Zm rfl (Zn (Zt (GC.block ?_)))
 refine GC.loop (ι:=Nat × Int) (fun⟨k,q⟩=>[(0,vx),(9,vx),(10,.int .i64 ((x.length:Nat))),(3,.int .i64 (q)),(11,.int .i64 ((k:Int)))]) (fun⟨k,q⟩=>own) (fun⟨k,q⟩=>(k≤x.length)∧(q=((x.take k).flatten.length:Nat))) (fun⟨k,q⟩=>x.length - k) (0,0) (⟨by omega,by simp⟩) ⟨rfl,rfl,rfl,rfl,rfl,trivial⟩ [] 0 rfl ?_
 rintro⟨k,q⟩ ⟨hk,hq⟩
 have hfl:=flat_le hle k hk
 refine Zs (Zr (Zd (OD.lss rfl rfl rfl) rfl ?_))
 refine Zn (Zt (Zs ?_))
 refine GC.cond rfl (fun hc1=>?_) (fun hc1=>?_)
 replace hc1:=of_decide_eq_true hc1
 refine Zk (Zt (Zs (GC.block (Zs (Zr ?_)))))
 refine Zd (OD.indexAddr rfl et60 rfl ex rfl (by omega)) rfl ?_
 refine Zd (OD.loadElem rfl ti22 rfl ex (by omega) rfl) rfl ?_
 refine Za rfl (Zn (Zt (Zs ?_)))
 have hlk:=hle k (by omega)
 refine Zr (Zm rfl (Zm rfl (Zd (OD.len rfl rfl et22 rfl ((mx (k) (by omega)))) rfl ?_)))
 refine Zd (OD.addI rfl rfl rfl (by omega)) rfl ?_
 refine Za rfl (Zn (Zt (Zs (Zr (Zm rfl (Zd (OD.eqv (OD.lss rfl rfl rfl) (congrArg Value.bool ((decide_eq_false (by omega)):_=false))) rfl ?_))))))
 refine Zn (Zt (GC.condF rfl (Zk (GE.blockN (Zt (Zr ?_))))))
 refine Zd (OD.addI rfl rfl rfl (by omega)) rfl ?_
 exact Zm rfl (Zn (GE.again (k+1,q+((x.getD (k) []).length:Nat)) (⟨by omega,by have:=flat_lenS (L:=x) (k:=k) (by omega);omega⟩) (by first | omega | (dsimp only;omega)) ⟨rfl,rfl,rfl,rfl,rfl,trivial⟩ [] 0 rfl))
 replace hc1:=of_decide_eq_false hc1
 refine GC.exit (Zp (Zp (GE.hit (Zt (Zs (Zr ?_))))))
 refine Zm rfl (G.step (OG.call [.slice none 0 0,.int .i64 (q)] ent169 rfl rfl rfl rfl (by exact(grow_w (n:=q) (by omega)))) rfl rfl rfl ?_)
 rintro v2 _ ⟨_,rfl,hs3,rfl⟩
 refine Za rfl (Zn (Zt (Zs (Zs (Zr (Zm rfl (Zd (OD.len rfl rfl et60 rfl (Ent.drop 1 ex)) rfl ?_)))))))
 refine Zm rfl (Zn (Zt (GC.block ?_)))
 refine GC.ownEq (own':=ints 3 v2 ((x.take 0).flatten)::own) (rfl) ?_
 refine GC.loop (ι:=Nat × Value) (fun⟨k,v⟩=>[(25,vx),(26,.int .i64 ((x.length:Nat))),(6,v),(27,.int .i64 ((k:Int)))]) (fun⟨k,v⟩=>ints 3 v ((x.take k).flatten)::own) (fun⟨k,v⟩=>(k≤x.length)∧(IsS v)) (fun⟨k,v⟩=>x.length - k) (0,v2) (⟨by omega,hs3⟩) ⟨rfl,rfl,rfl,rfl,trivial⟩ [] 0 rfl ?_
 rintro⟨k,v⟩ ⟨hk,hv⟩
 have hfl:=flat_le hle k hk
 refine Zs (Zr (Zd (OD.lss rfl rfl rfl) rfl ?_))
 refine Zn (Zt (Zs ?_))
 refine GC.cond rfl (fun hc4=>?_) (fun hc4=>?_)
 replace hc4:=of_decide_eq_true hc4
 refine Zk (Zt (Zs (GC.block (Zs (Zr ?_)))))
 refine Zd (OD.indexAddr rfl et60 rfl (Ent.drop 1 ex) rfl (by omega)) rfl ?_
 refine Zd (OD.loadElem rfl ti22 rfl (Ent.drop 1 ex) (by omega) rfl) rfl ?_
 refine Za rfl (Zn (Zt ?_))
 have hlk:=hle k (by omega)
 refine Zr (Zm rfl (Zm rfl (G.step (OG.appendInts 0 rfl rfl et22 rfl rfl rfl (Ent.drop 1 (mx (k) (by omega))) (by first | omega | (simp;omega))) rfl rfl rfl ?_)))
 rintro v5 _ ⟨hs6,rfl⟩
 refine Za rfl (Zn (GE.blockN (Zt (Zr ?_))))
 refine Zd (OD.addI rfl rfl rfl (by omega)) rfl ?_
 refine Zm rfl (Zn (GE.ownEq (own':=ints 3 v5 ((x.take (k+1)).flatten)::own) (by rw[← flat_next (by omega)] <;> rfl) ?_))
 exact GE.again (k+1,v5) (⟨by omega,hs6⟩) (by first | omega | (dsimp only;omega)) ⟨rfl,rfl,rfl,rfl,trivial⟩ [] 0 rfl
 replace hc4:=of_decide_eq_false hc4
 refine GC.exit (Zp (Zp (GE.hit (Zt (Zs (Zr ?_))))))
 refine Zm rfl (Za rfl (Zn (Zt (GC.ret ?_))))
 exact GE.body [] 0 (res1 rfl rfl) rfl (⟨v,rfl,hv,congrArg (fun(l0:List Int)=>ints 3 v l0::own) ((flat_all (by omega):(x.take k).flatten=x.flatten))⟩)
theorem matrixOf_w {W:World}{own:List Asn}{p:Int}{cols:Int}{vx:Value}{ux:List Value}{x:List (List Int)}(sx:IsS vx)(ex:Ent own fun w=>Sl w vx x.length 1 ux)(mx:∀ k,k<x.length→Ent own fun w=>Ints w (ux.getD k undef) (x.getD k []))(lx:ux.length=x.length)(ax:AllS ux)(hxl:x.length≤64)(hle:∀ k,k<x.length→(x.getD k []).length≤64):Spec Tryz.prog 76 [.int .i64 (p),.int .i64 (cols),vx] W own (fun v ow=>∃ (r3:Value),v = .agg #[.int .i64 (p),.int .i64 ((x.length:Nat)),.int .i64 (cols),r3]∧IsS r3∧ow=ints 3 r3 x.flatten::own):=by
 refine Spec.enter Tryz.f76 _ Tryz.func76 rfl (n:=14) rfl rfl ?_
 refine Zs (Zr (G.step (OG.alloc rfl ti51 (zs:=[.int .i64 (0),.int .i64 (0),.int .i64 (0),.slice none 0 0]) rfl) rfl rfl rfl ?_))
 rintro _ _ ⟨g1,rfl,rfl⟩
 refine Zn (Zt (Zs (Zr (Zm rfl (Zm rfl (Zd (OD.len rfl rfl et60 rfl (Ent.drop 1 ex)) rfl ?_))))))
 refine Zm rfl (Zm rfl (G.step (OG.call [vx] ent131 rfl rfl rfl rfl (by exact(concat_w sx (Ent.drop 1 ex) (fun k hk=>(Ent.drop 1 (mx k hk))) lx ax (hxl) (hle)))) rfl rfl rfl ?_))
 rintro v2 _ ⟨_,rfl,hs3,rfl⟩
 refine Zd (OD.build (idx:=[0,1,2,3]) (xs:=[.tmp 7,.tmp 9,.tmp 10,.tmp 12]) (vs:=[.int .i64 (p),.int .i64 ((x.length:Nat)),.int .i64 (cols),v2]) (cs:=[[.int .i64 (p)],[.int .i64 ((x.length:Nat))],[.int .i64 (cols)],[v2]]) (zs:=[.int .i64 (0),.int .i64 (0),.int .i64 (0),.slice none 0 0]) (r:=[.int .i64 (p),.int .i64 ((x.length:Nat)),.int .i64 (cols),v2]) rfl ti51 rfl rfl rfl ⟨rfl,⟨rfl,⟨rfl,⟨(one_cells (IsS.one hs3)),trivial⟩⟩⟩⟩ rfl) rfl ?_
 refine G.stepD0 (OD.store rfl ti51 rfl rfl (us:=[.int .i64 (p),.int .i64 ((x.length:Nat)),.int .i64 (cols),v2]) rfl rfl (allC rfl (allC rfl (allC rfl (allC (IsS.one hs3) rfl)))) (i:=1) rfl rfl) rfl rfl ?_
 refine Zn (Zt (GC.ret ?_))
 exact GE.body [0] 1 (resN rfl (RVs.cons (rv_cells ti51 rfl (i:=1) rfl rfl) RVs.nil) rfl) rfl (⟨v2,rfl,hs3,rfl⟩)
set_option maxHeartbeats 4000000 in
theorem cartanSpace_w {W:World}{own:List Asn}{cr:Int}{vcd:Value}{cd:List Int}{p:Int}(scd:IsS vcd)(ecd:Ent own fun w=>Ints w vcd cd)(hl0:cd.length≤1073741824)(hg:Ent own fun w=>∃ m,w.cell? ⟨Tryz.l146_ren.g 1,0,none⟩=some (.int .i64 m))(htab:Ent own Pow10):Spec Tryz.prog 30 [.agg #[.int .i64 (cr),vcd],.int .i64 (p)] W own (fun v ow=>∃ (r3:Value),v = .tuple #[.agg #[.int .i64 (csP cr cd p),.int .i64 (csr cr cd p),.int .i64 (csC cr cd p),r3],.bool (smOk cr cd p)]∧IsS r3∧ow=ints 3 r3 (csD cr cd p)::own):=by
 refine Spec.enter Tryz.f30 _ Tryz.func30 rfl (n:=45) rfl rfl ?_
 refine Zs (Zr (G.step (OG.box (cs:=[.int .i64 (cr),vcd]) rfl rfl rfl) rfl rfl rfl ?_))
 rintro _ _ ⟨g1,rfl,rfl⟩
 refine G.step (OG.alloc rfl ti51 (zs:=[.int .i64 (0),.int .i64 (0),.int .i64 (0),.slice none 0 0]) rfl) rfl rfl rfl ?_
 rintro _ _ ⟨g2,rfl,rfl⟩
 refine Za rfl (Zn (Zt (Zs (Zr (Zd (OD.loadAgg rfl ti27 rfl (i:=1) rfl (us:=[.int .i64 (cr),vcd]) rfl rfl) rfl ?_)))))
 refine Zm rfl (G.step (OG.call [.agg #[.int .i64 (cr),vcd],.int .i64 (p)] ent24 rfl rfl rfl rfl (by exact(simpleTable_w scd (Ent.drop 2 ecd) (hl0) ((Ent.drop 2 hg)) ((Ent.drop 2 htab))))) rfl rfl rfl ?_)
 rintro _ _ ⟨v3,rfl,hs4,rfl⟩
 refine Zm rfl (Zd (OD.extract rfl rfl rfl) rfl ?_)
 refine Zd (OD.extract rfl rfl rfl) rfl ?_
 refine G.step (OG.alloc rfl ti43 (zs:=[.int .i64 (0),.int .i64 (0),.slice none 0 0]) rfl) rfl rfl rfl ?_
 rintro _ _ ⟨g5,rfl,rfl⟩
 refine G.stepD0 (OD.store rfl ti43 rfl rfl (us:=[.int .i64 (smAp cr cd p),.int .i64 (smAn cr cd p),v3]) rfl rfl (allC rfl (allC rfl (allC (IsS.one hs4) rfl))) (i:=0) rfl rfl) rfl rfl ?_
 refine Za rfl (Zn (Zt (Zs (Zs (Zr (Zm rfl (Zd (OD.not rfl rfl) rfl ?_)))))))
 refine Zn (Zt ?_)
 refine GC.cond rfl (fun hc6=>?_) (fun hc6=>?_)
 replace hc6:=eq_false_of_not hc6
 have hOk:smOk cr cd p=false:=hc6
 refine Zs (Zr (Zd (OD.build (idx:=[]) (xs:=[]) (vs:=[]) (cs:=[]) (zs:=[.int .i64 (0),.int .i64 (0),.int .i64 (0),.slice none 0 0]) (r:=[.int .i64 (0),.int .i64 (0),.int .i64 (0),.slice none 0 0]) rfl ti51 rfl rfl rfl trivial rfl) rfl ?_))
 refine G.stepD0 (OD.store rfl ti51 rfl rfl (us:=[.int .i64 (0),.int .i64 (0),.int .i64 (0),.slice none 0 0]) rfl rfl rfl (i:=2) rfl rfl) rfl rfl ?_
 refine Za rfl (Zn (Zt (GC.ret (GE.passR ?_))))
 refine GE.nilInts 3 ?_
 exact GE.body [0] 4 (resN rfl (RVs.cons (rv_cells ti51 rfl (i:=3) rfl rfl) (RVs.cons (rv_tmp rfl) RVs.nil)) rfl) rfl (⟨(.slice none 0 0),congr (congr (congr (congrArg (fun(a0:Int) (a1:Int) (a2:Int) (a4:Bool)=>(.tuple #[.agg #[.int .i64 (a0),.int .i64 (a1),.int .i64 (a2),(.slice none 0 0)],.bool (a4)]:Value)) ((by rw[csP,hOk] <;> rfl:(0:Int)=csP cr cd p))) ((by rw[csr,hOk];first | rfl | (simp only[if_true,csR_len];omega):(0:Int)=csr cr cd p))) ((by rw[csC,hOk];first | rfl | (simp only[if_true];omega):(0:Int)=csC cr cd p))) ((hOk.symm:(false:Bool)=smOk cr cd p)),IsS.nil,congrArg (fun(l0:List Int)=>ints 3 (.slice none 0 0) l0::own) ((by rw[csD,hOk];first | rfl | (rw[if_pos rfl,show k=cr.toNat by omega]) : []=csD cr cd p))⟩)
 replace hc6:=eq_true_of_not hc6
 have hOk:smOk cr cd p=true:=hc6
 obtain⟨hS,hPr,h28⟩:=smOk_S hOk
 have hcr:=(tyS_ok hS).1
 have hcd:=(tyS_ok hS).2
 have hMl:smM cr cd=(rSt cr cd).length:=rfl
 have hNl:smN cr cd=2*smM cr cd+cr.toNat:=rfl
 have hr4:=(rtOk hS).rk
 have hlo:=(rtOk hS).lo
 have hRf:(rSt cr cd).length≤30:=by have h1:=(rtOk hS).slen;have h2:=(rtOk hS).few;omega
 have hAn:smAn cr cd p=(smN cr cd:Nat):=by rw[smAn,hOk] <;> rfl
 refine Zk (Zt (Zs (Zr (G.step (OG.buildLst (xs:=[]) (us:=[]) rfl et60 rfl rfl rfl rfl rfl) rfl rfl rfl ?_))))
 rintro v7 _ ⟨hs8,rfl⟩
 refine Za rfl (Zn (Zt (Zs (Zs (Zr (Zd (OD.fieldAddr rfl rfl fa27_0) rfl ?_))))))
 refine Zd (OD.load rfl ti3 rfl (i:=4) rfl rfl) rfl ?_
 refine Zm rfl (Zn (Zt (GC.block ?_)))
 refine GC.many0 (ints 3) ?_
 refine GC.loop (ι:=Nat × List Value × Value) (fun⟨k,us,v⟩=>[(1,.int .i64 (p)),(2,.pointer (some ⟨g1,0,none⟩)),(4,.pointer (some ⟨g2,0,none⟩)),(6,.pointer (some ⟨g5,0,none⟩)),(21,.int .i64 (cr)),(8,v),(22,.int .i64 ((k:Int)))]) (fun⟨k,us,v⟩=>many (ints 3) us (csR cr cd k)::lst 22 v us::box g5 43 [.int .i64 (smAp cr cd p),.int .i64 (smAn cr cd p),v3]::ints 3 v3 (smAd cr cd p)::box g2 51 [.int .i64 (0),.int .i64 (0),.int .i64 (0),.slice none 0 0]::box g1 27 [.int .i64 (cr),vcd]::own) (fun⟨k,us,v⟩=>(k≤cr.toNat)∧(AllS us)∧(us.length=k)∧(IsS v)) (fun⟨k,us,v⟩=>cr.toNat - k) (0,[],v7) (⟨by omega,AllS.nil,rfl,hs8⟩) ⟨rfl,rfl,rfl,rfl,rfl,rfl,rfl,trivial⟩ [] 0 rfl ?_
 rintro⟨k,us,v⟩ ⟨hk,ha,hul,hv⟩
 have hxl:(csR cr cd k).length=k:=csR_len
 refine Zs (Zr (Zd (OD.lss rfl rfl rfl) rfl ?_))
 refine Zn (Zt (Zs ?_))
 refine GC.cond rfl (fun hc9=>?_) (fun hc9=>?_)
 replace hc9:=of_decide_eq_true hc9
 refine Zk (Zt (Zs (GC.block (Zs (Zr ?_)))))
 refine Zm rfl (Za rfl (Zn (Zt (Zr (Zm rfl (Zd (OD.fieldAddr rfl rfl fa43_1) rfl ?_))))))
 refine Zd (OD.load rfl ti3 rfl (i:=2) rfl rfl) rfl ?_
 refine Zd (OD.fieldAddr rfl rfl fa43_1) rfl ?_
 refine Zd (OD.load rfl ti3 rfl (i:=2) rfl rfl) rfl ?_
 refine Zd (OD.fieldAddr rfl rfl fa27_0) rfl ?_
 refine Zd (OD.load rfl ti3 rfl (i:=5) rfl rfl) rfl ?_
 refine Zd (OD.subI rfl rfl rfl (by omega)) rfl ?_
 refine Zd (OD.eqv (OD.quo rfl rfl rfl (by omega)) (congrArg (Value.int .i64) ((quo2w (by omega) (by omega)):(IntKind.i64.wrap (((smAn cr cd p) - cr).tdiv 2):Int)=(((smM cr cd:Nat):Int))))) rfl ?_
 refine Zm rfl (Zd (OD.addI rfl rfl rfl (by omega)) rfl ?_)
 refine G.step (OG.call [.int .i64 (smAn cr cd p),.int .i64 (((smM cr cd:Nat):Int)+(k:Int))] ent75 rfl rfl rfl rfl (by exact(unit28_w (by omega) (by omega)))) rfl rfl rfl ?_
 rintro v10 _ ⟨_,rfl,hs11,rfl⟩
 refine G.step (OG.buildLst (xs:=[.tmp 36]) (us:=[v10]) rfl et60 rfl rfl rfl (allC (IsS.one hs11) rfl) rfl) rfl rfl rfl ?_
 rintro v12 _ ⟨hs13,rfl⟩
 refine G.step (OG.appendLst 3 rfl rfl et60 rfl rfl rfl (Ent.lst (i:=0) rfl) (List.all_eq_true.2 fun u hu=>by simpa using(AllS.snoc AllS.nil hs11).one u hu) (by simp[maxLen] <;> omega)) rfl rfl rfl ?_
 rintro v14 _ ⟨hs15,rfl⟩
 refine Za rfl (Zn (GE.blockN (Zt (Zr ?_))))
 refine Zd (OD.addI rfl rfl rfl (by omega)) rfl ?_
 refine Zm rfl (Zn ?_)
 refine GE.at [1,1,0,0,0,0,0,0] 0 (env':=[(1,.int .i64 (p)),(2,.pointer (some ⟨g1,0,none⟩)),(4,.pointer (some ⟨g2,0,none⟩)),(6,.pointer (some ⟨g5,0,none⟩)),(21,.int .i64 (cr)),(23,.bool (decide ((k:Int)<cr))),(24,.int .i64 ((k:Int))),(9,.int .i64 ((k:Int))),(25,v),(26,.pointer (some ⟨g5,1,none⟩)),(27,.int .i64 (smAn cr cd p)),(28,.pointer (some ⟨g5,1,none⟩)),(29,.int .i64 (smAn cr cd p)),(30,.pointer (some ⟨g1,0,none⟩)),(31,.int .i64 (cr)),(32,.int .i64 ((smAn cr cd p) - cr)),(33,.int .i64 (((smM cr cd:Nat):Int))),(34,.int .i64 ((k:Int))),(35,.int .i64 (((smM cr cd:Nat):Int)+(k:Int))),(36,v10),(37,v12),(38,v14),(8,v14),(39,.int .i64 ((k:Int)+1)),(22,.int .i64 ((k:Int)+1))]) ⟨rfl,rfl,rfl,rfl,rfl,rfl,rfl,rfl,rfl,rfl,rfl,rfl,rfl,rfl,rfl,rfl,rfl,rfl,rfl,rfl,rfl,rfl,rfl,rfl,rfl,trivial⟩ (own':=ints 3 v10 (unitL (smAn cr cd p).toNat (((smM cr cd:Nat):Int)+(k:Int)).toNat)::many (ints 3) us (csR cr cd k)::lst 22 v12 [v10]::lst 22 v14 (us++[v10])::box g5 43 [.int .i64 (smAp cr cd p),.int .i64 (smAn cr cd p),v3]::ints 3 v3 (smAd cr cd p)::box g2 51 [.int .i64 (0),.int .i64 (0),.int .i64 (0),.slice none 0 0]::box g1 27 [.int .i64 (cr),vcd]::own) rfl ?_
 refine GE.manyPush (by omega) ?_
 refine GE.ownEq (own':=many (ints 3) (us++[v10]) (csR cr cd (k+1))::lst 22 v12 [v10]::lst 22 v14 (us++[v10])::box g5 43 [.int .i64 (smAp cr cd p),.int .i64 (smAn cr cd p),v3]::ints 3 v3 (smAd cr cd p)::box g2 51 [.int .i64 (0),.int .i64 (0),.int .i64 (0),.slice none 0 0]::box g1 27 [.int .i64 (cr),vcd]::own) (by rw[csR_next (by omega) (by omega)]) ?_
 exact GE.again (k+1,us++[v10],v14) (⟨by omega,(ha.snoc hs11),by rw[List.length_append,List.length_singleton];omega,hs15⟩) (by first | omega | (dsimp only;omega)) ⟨rfl,rfl,rfl,rfl,rfl,rfl,rfl,trivial⟩ [0,1,1,1,1,1] 1 rfl
 replace hc9:=of_decide_eq_false hc9
 refine GC.exit (Zp (Zp (GE.hit (Zt (Zs (Zr ?_))))))
 refine Zm rfl (Zd (OD.fieldAddr rfl rfl fa43_1) rfl ?_)
 refine Zd (OD.load rfl ti3 rfl (i:=2) rfl rfl) rfl ?_
 refine Zm rfl (G.step (OG.call [.int .i64 (p),.int .i64 (smAn cr cd p),v] ent76 rfl rfl rfl rfl (by exact(matrixOf_w hv (Ent.len (Ent.lst (i:=1) rfl) (by omega)) (fun k hk=>Ent.manyInts (i:=0) (k:=k) rfl ⟨by omega,hk⟩) (by omega) ha (by rw[csR_len];omega) (csR_le h28)))) rfl rfl rfl ?_)
 rintro _ _ ⟨v16,rfl,hs17,rfl⟩
 refine G.stepD0 (OD.store rfl ti51 rfl rfl (us:=[.int .i64 (p),.int .i64 (((csR cr cd k).length:Nat)),.int .i64 (smAn cr cd p),v16]) rfl rfl (allC rfl (allC rfl (allC rfl (allC (IsS.one hs17) rfl)))) (i:=5) rfl rfl) rfl rfl ?_
 refine Za rfl (Zn (Zt (GC.ret ?_)))
 exact GE.body [0] 6 (resN rfl (RVs.cons (rv_cells ti51 rfl (i:=5) rfl rfl) (RVs.cons (rv_tmp rfl) RVs.nil)) rfl) rfl (⟨v16,congr (congr (congr (congrArg (fun(a0:Int) (a1:Int) (a2:Int) (a4:Bool)=>(.tuple #[.agg #[.int .i64 (a0),.int .i64 (a1),.int .i64 (a2),v16],.bool (a4)]:Value)) ((by rw[csP,hOk] <;> rfl:(p:Int)=csP cr cd p))) ((by rw[csr,hOk];first | rfl | (simp only[if_true,csR_len];omega):(((csR cr cd k).length:Nat):Int)=csr cr cd p))) ((by rw[csC,hOk];first | rfl | (simp only[if_true];omega):(smAn cr cd p:Int)=csC cr cd p))) ((hOk.symm:(true:Bool)=smOk cr cd p)),hs17,congrArg (fun(l0:List Int)=>ints 3 v16 l0::own) ((by rw[csD,hOk];first | rfl | (rw[if_pos rfl,show k=cr.toNat by omega]):(csR cr cd k).flatten=csD cr cd p))⟩)
end Go.Proofs.YtbmnnbglipkidaaGreatDoor
