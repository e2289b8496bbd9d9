/-
  The order of roots, with draws that are counted: contracts by walks.
-/
import Derived.Test.YtbmnnbglipkidaaGreatDoorDOps
import Derived.Test.YtbmnnbglipkidaaGreatDoorRts
namespace Go.Proofs.YtbmnnbglipkidaaGreatDoor.D
set_option maxRecDepth 100000
set_option linter.unusedVariables false
set_option linter.unusedSimpArgs false
open Go.RowKit
theorem Ak:TI Tryz.prog 3 false 1 (.int .i64 (0)) []:=⟨fun w=>by kernel_rfl,by kernel_rfl,fun h=>by cases h⟩
theorem Ac:ET Tryz.prog 22 3 1 8 (.int .i64 (0)):=⟨Tryz.underlying22,by kernel_rfl,rfl,by omega⟩
theorem KM:∀ us w,(callFunc 99 us).run Tryz.prog w = .ok (.enter 99 us) w:=fun us w=>by kernel_rfl
theorem bZ:∀ us w,(callFunc 114 us).run Tryz.prog w = .ok (.enter 114 us) w:=fun us w=>by kernel_rfl
theorem Vw:∀ us w,(callFunc 115 us).run Tryz.prog w = .ok (.enter 115 us) w:=fun us w=>by kernel_rfl
theorem dm:∀ us w,(callFunc 116 us).run Tryz.prog w = .ok (.enter 116 us) w:=fun us w=>by kernel_rfl
theorem UW:∀ us w,(callFunc 161 us).run Tryz.prog w = .ok (.enter 161 us) w:=fun us w=>by kernel_rfl
theorem Et {W:World}{own:List Asn}{vx:Value}{x:List Int}(sx:Ab vx)(ex:Ent own fun w=>Ints w vx x)(hl:x.length≤1073741824):Spec Tryz.prog 99 [vx] W own (fun v ow=>v = .int .i64 (Ci x)∧ow=own):=by
 refine Spec.enter Tryz.f99 _ Tryz.func99 rfl (n:=17) rfl rfl ?_
 refine GC.seq (GC.region ?_)
 refine G.stepD (OD.assign rfl rfl) rfl rfl rfl ?_
 refine G.nil (GE.then_ (GC.seq (GC.region ?_)))
 refine G.stepD (OD.assign rfl rfl) rfl rfl rfl ?_
 refine G.nil (GE.then_ (GC.seq (GC.seq (GC.region ?_))))
 refine G.stepD (OD.move rfl rfl) rfl rfl rfl ?_
 refine G.stepD (OD.len rfl rfl Ac rfl ex) rfl rfl rfl ?_
 refine G.stepD (OD.move rfl rfl) rfl rfl rfl ?_
 refine G.nil (GE.then_ (GC.block ?_))
 refine GC.loop (ι:=Nat × Int) (fun⟨k,q⟩=>[(6,vx),(7,.int .i64 ((x.length:Nat))),(3,.int .i64 (q)),(8,.int .i64 ((k:Int)))]) (fun⟨k,q⟩=>own) (fun⟨k,q⟩=>(k≤x.length)∧(q=(List.range k).foldl (fun(s:Int) (i:Nat)=>IntKind.i64.wrap (s+x.getD i 0)) 0)) (fun⟨k,q⟩=>x.length - k) (0,0) (⟨by omega,rfl⟩) ⟨rfl,rfl,rfl,rfl,trivial⟩ [] 0 rfl ?_
 rintro⟨k,q⟩ ⟨hk,hq⟩
 refine GC.seq (GC.region ?_)
 refine G.stepD (OD.lss rfl rfl rfl) rfl rfl rfl ?_
 refine G.nil (GE.then_ (GC.seq ?_))
 refine GC.cond rfl (fun hc1=>?_) (fun hc1=>?_)
 replace hc1:=of_decide_eq_true hc1
 refine GC.skip (GE.then_ (GC.seq (GC.block (GC.seq (GC.region ?_)))))
 refine G.stepD (OD.indexAddr rfl Ac rfl ex rfl (by omega)) rfl rfl rfl ?_
 refine G.stepD (OD.loadInt rfl Ak rfl ex (by omega)) rfl rfl rfl ?_
 refine G.stepD (OD.assign rfl rfl) rfl rfl rfl ?_
 refine G.nil (GE.then_ (GC.region ?_))
 refine G.stepD (OD.move rfl rfl) rfl rfl rfl ?_
 refine G.stepD (OD.move rfl rfl) rfl rfl rfl ?_
 refine G.stepD (OD.add rfl rfl rfl) rfl rfl rfl ?_
 refine G.stepD (OD.assign rfl rfl) rfl rfl rfl ?_
 refine G.nil (GE.blockN (GE.then_ (GC.region ?_)))
 refine G.stepD (OD.addI rfl rfl rfl (by omega)) rfl rfl rfl ?_
 refine G.stepD (OD.move rfl rfl) rfl rfl rfl ?_
 refine G.nil ?_
 exact GE.again (k+1,IntKind.i64.wrap (q+(x.getD (k) 0))) (⟨by omega,Ar hq rfl⟩) (by first | omega | (dsimp only;omega)) ⟨rfl,rfl,rfl,rfl,trivial⟩ [] 0 rfl
 replace hc1:=of_decide_eq_false hc1
 refine GC.exit (GE.pass (GE.pass (GE.hit (GE.then_ (GC.seq (GC.region ?_))))))
 refine G.stepD (OD.move rfl rfl) rfl rfl rfl ?_
 refine G.stepD (OD.assign rfl rfl) rfl rfl rfl ?_
 refine G.nil (GE.then_ (GC.ret ?_))
 exact GE.body [] 0 (Ao rfl rfl) rfl (⟨congrArg (fun(a0:Int)=>(.int .i64 (a0):Value)) ((by rw[hq,show k=x.length by omega];rfl:(q:Int)=Ci x)),rfl⟩)
theorem QP {W:World}{own:List Asn}{x:Int}:Spec Tryz.prog 161 [.int .i64 (x)] W own (fun v ow=>v = .bool (false)∧ow=own):=by
 refine Spec.enter Tryz.f161 _ Tryz.func161 rfl (n:=6) rfl rfl ?_
 refine GC.seq (GC.region ?_)
 refine G.stepD (OD.assign rfl rfl) rfl rfl rfl ?_
 refine G.nil (GE.then_ (GC.seq (GC.region ?_)))
 refine G.stepD (OD.move rfl rfl) rfl rfl rfl ?_
 refine G.stepD (OD.move rfl rfl) rfl rfl rfl ?_
 refine G.stepD (OD.eqv (OD.neq rfl rfl rfl) (congrArg Value.bool ((CE _):_=false))) rfl rfl rfl ?_
 refine G.stepD (OD.assign rfl rfl) rfl rfl rfl ?_
 refine G.nil (GE.then_ (GC.ret ?_))
 exact GE.body [] 0 (Ao rfl rfl) rfl (⟨rfl,rfl⟩)
theorem Vx {W:World}{own:List Asn}{x:Int}{y:Int}:Spec Tryz.prog 115 [.int .i64 (x),.int .i64 (y)] W own (fun v ow=>v = .int .i64 (Ea x y)∧ow=own):=by
 refine Spec.enter Tryz.f115 _ Tryz.func115 rfl (n:=20) rfl rfl ?_
 refine GC.seq (GC.region ?_)
 refine G.stepD (OD.assign rfl rfl) rfl rfl rfl ?_
 refine G.nil (GE.then_ (GC.seq (GC.region ?_)))
 refine G.stepD (OD.move rfl rfl) rfl rfl rfl ?_
 refine G.step (OG.call [.int .i64 (x)] UW rfl rfl rfl rfl (by exact QP)) rfl rfl rfl ?_
 rintro _ _ ⟨rfl,hzz⟩;obtain rfl:=hzz.symm
 refine G.stepD (OD.assign rfl rfl) rfl rfl rfl ?_
 refine G.nil (GE.then_ (GC.seq (GC.region ?_)))
 refine G.stepD (OD.move rfl rfl) rfl rfl rfl ?_
 refine G.step (OG.call [.int .i64 (y)] UW rfl rfl rfl rfl (by exact QP)) rfl rfl rfl ?_
 rintro _ _ ⟨rfl,hzz⟩;obtain rfl:=hzz.symm
 refine G.stepD (OD.assign rfl rfl) rfl rfl rfl ?_
 refine G.nil (GE.then_ (GC.seq (GC.seq (GC.region ?_))))
 refine G.stepD (OD.move rfl rfl) rfl rfl rfl ?_
 refine G.nil (GE.then_ (GC.condF rfl (GC.skip (GE.then_ (GC.seq (GC.seq (GC.region ?_)))))))
 refine G.stepD (OD.move rfl rfl) rfl rfl rfl ?_
 refine G.nil (GE.then_ (GC.condF rfl (GC.skip (GE.then_ (GC.seq (GC.seq (GC.region ?_)))))))
 refine G.stepD (OD.move rfl rfl) rfl rfl rfl ?_
 refine G.stepD (OD.move rfl rfl) rfl rfl rfl ?_
 refine G.stepD (OD.lss rfl rfl rfl) rfl rfl rfl ?_
 refine G.nil (GE.then_ ?_)
 refine GC.cond rfl (fun hc1=>?_) (fun hc1=>?_)
 replace hc1:=of_decide_eq_true hc1
 refine GC.seq (GC.region ?_)
 refine G.stepD (OD.assign rfl rfl) rfl rfl rfl ?_
 refine G.nil (GE.then_ (GC.ret (GE.passR ?_)))
 exact GE.body [] 0 (Ao rfl rfl) rfl (⟨congrArg (fun(a0:Int)=>(.int .i64 (a0):Value)) ((by rw[Ea,if_pos (by assumption)]:(-1:Int)=Ea x y)),rfl⟩)
 replace hc1:=of_decide_eq_false hc1
 refine GC.skip (GE.then_ (GC.seq (GC.seq (GC.region ?_))))
 refine G.stepD (OD.move rfl rfl) rfl rfl rfl ?_
 refine G.stepD (OD.move rfl rfl) rfl rfl rfl ?_
 refine G.stepD (OD.gtr rfl rfl rfl) rfl rfl rfl ?_
 refine G.nil (GE.then_ ?_)
 refine GC.cond rfl (fun hc2=>?_) (fun hc2=>?_)
 replace hc2:=of_decide_eq_true hc2
 refine GC.seq (GC.region ?_)
 refine G.stepD (OD.assign rfl rfl) rfl rfl rfl ?_
 refine G.nil (GE.then_ (GC.ret (GE.passR ?_)))
 exact GE.body [] 0 (Ao rfl rfl) rfl (⟨congrArg (fun(a0:Int)=>(.int .i64 (a0):Value)) ((by rw[Ea,if_neg (by omega),if_pos (by assumption)]:(1:Int)=Ea x y)),rfl⟩)
 replace hc2:=of_decide_eq_false hc2
 refine GC.skip (GE.then_ (GC.seq (GC.region ?_)))
 refine G.stepD (OD.assign rfl rfl) rfl rfl rfl ?_
 refine G.nil (GE.then_ (GC.ret ?_))
 exact GE.body [] 0 (Ao rfl rfl) rfl (⟨congrArg (fun(a0:Int)=>(.int .i64 (a0):Value)) ((by rw[Ea,if_neg (by omega),if_neg (by omega)]:(0:Int)=Ea x y)),rfl⟩)
theorem SH {W:World}{own:List Asn}{vx:Value}{x:List Int}{vy:Value}{y:List Int}(sx:Ab vx)(ex:Ent own fun w=>Ints w vx x)(sy:Ab vy)(ey:Ent own fun w=>Ints w vy y)(hl:x.length≤1073741824)(hly:y.length≤1073741824):Spec Tryz.prog 116 [vx,vy] W own (fun v ow=>v = .int .i64 (cmpL x y)∧ow=own):=by
 refine Spec.enter Tryz.f116 _ Tryz.func116 rfl (n:=36) rfl rfl ?_
 refine GC.seq (GC.region ?_)
 refine G.stepD (OD.assign rfl rfl) rfl rfl rfl ?_
 refine G.nil (GE.then_ (GC.seq (GC.seq (GC.region ?_))))
 refine G.stepD (OD.move rfl rfl) rfl rfl rfl ?_
 refine G.stepD (OD.len rfl rfl Ac rfl ex) rfl rfl rfl ?_
 refine G.stepD (OD.move rfl rfl) rfl rfl rfl ?_
 refine G.nil (GE.then_ (GC.block ?_))
 refine GC.loop (ι:=Nat) (fun k=>[(0,vx),(1,vy),(9,vx),(10,.int .i64 ((x.length:Nat))),(11,.int .i64 ((k:Int)))]) (fun k=>own) (fun k=>(k≤x.length)∧(k≤y.length)∧(cmpL x y=cmpL (x.drop k) (y.drop k))) (fun k=>x.length - k) 0 (⟨by omega,by omega,rfl⟩) ⟨rfl,rfl,rfl,rfl,rfl,trivial⟩ [] 0 rfl ?_
 rintro k ⟨hk,hky,hc⟩
 refine GC.seq (GC.region ?_)
 refine G.stepD (OD.lss rfl rfl rfl) rfl rfl rfl ?_
 refine G.nil (GE.then_ (GC.seq ?_))
 refine GC.cond rfl (fun hc1=>?_) (fun hc1=>?_)
 replace hc1:=of_decide_eq_true hc1
 refine GC.skip (GE.then_ (GC.seq (GC.block (GC.seq (GC.region ?_)))))
 refine G.stepD (OD.move rfl rfl) rfl rfl rfl ?_
 refine G.stepD (OD.indexAddr rfl Ac rfl ex rfl (by omega)) rfl rfl rfl ?_
 refine G.stepD (OD.loadInt rfl Ak rfl ex (by omega)) rfl rfl rfl ?_
 refine G.stepD (OD.assign rfl rfl) rfl rfl rfl ?_
 refine G.stepD (OD.assign rfl rfl) rfl rfl rfl ?_
 refine G.nil (GE.then_ (GC.seq (GC.seq (GC.region ?_))))
 refine G.stepD (OD.move rfl rfl) rfl rfl rfl ?_
 refine G.stepD (OD.move rfl rfl) rfl rfl rfl ?_
 refine G.stepD (OD.len rfl rfl Ac rfl ey) rfl rfl rfl ?_
 refine G.stepD (OD.geq rfl rfl rfl) rfl rfl rfl ?_
 refine G.nil (GE.then_ ?_)
 refine GC.cond rfl (fun hc2=>?_) (fun hc2=>?_)
 replace hc2:=of_decide_eq_true hc2
 refine GC.seq (GC.region ?_)
 refine G.stepD (OD.assign rfl rfl) rfl rfl rfl ?_
 refine G.nil (GE.then_ (GC.ret (GE.passR (GE.blockR (GE.passR (GE.passR (GE.blockR (GE.passR ?_))))))))
 exact GE.body [] 0 (Ao rfl rfl) rfl (⟨congrArg (fun(a0:Int)=>(.int .i64 (a0):Value)) ((by rw[hc];exact(UT (by omega) (by omega)).symm:(1:Int)=cmpL x y)),rfl⟩)
 replace hc2:=of_decide_eq_false hc2
 refine GC.skip (GE.then_ (GC.seq (GC.region ?_)))
 refine G.stepD (OD.move rfl rfl) rfl rfl rfl ?_
 refine G.stepD (OD.move rfl rfl) rfl rfl rfl ?_
 refine G.stepD (OD.indexAddr rfl Ac rfl ey rfl (by omega)) rfl rfl rfl ?_
 refine G.stepD (OD.loadInt rfl Ak rfl ey (by omega)) rfl rfl rfl ?_
 refine G.stepD (OD.assign rfl rfl) rfl rfl rfl ?_
 refine G.nil (GE.then_ (GC.seq (GC.region ?_)))
 refine G.stepD (OD.move rfl rfl) rfl rfl rfl ?_
 refine G.stepD (OD.move rfl rfl) rfl rfl rfl ?_
 refine G.step (OG.call [.int .i64 (x.getD (k) 0),.int .i64 (y.getD (k) 0)] Vw rfl rfl rfl rfl (by exact Vx)) rfl rfl rfl ?_
 rintro _ _ ⟨rfl,hzz⟩;obtain rfl:=hzz.symm
 refine G.stepD (OD.assign rfl rfl) rfl rfl rfl ?_
 refine G.nil (GE.then_ (GC.seq (GC.region ?_)))
 refine G.stepD (OD.move rfl rfl) rfl rfl rfl ?_
 refine G.stepD (OD.neq rfl rfl rfl) rfl rfl rfl ?_
 refine G.nil (GE.then_ ?_)
 refine GC.cond rfl (fun hc3=>?_) (fun hc3=>?_)
 replace hc3:=AA hc3
 refine GC.seq (GC.region ?_)
 refine G.stepD (OD.move rfl rfl) rfl rfl rfl ?_
 refine G.stepD (OD.assign rfl rfl) rfl rfl rfl ?_
 refine G.nil (GE.then_ (GC.ret (GE.blockR (GE.passR (GE.passR (GE.blockR (GE.passR ?_)))))))
 exact GE.body [] 0 (Ao rfl rfl) rfl (⟨congrArg (fun(a0:Int)=>(.int .i64 (a0):Value)) ((by rw[hc];exact(cf (by omega) (by omega) (by assumption)).symm:(Ea (x.getD (k) 0) (y.getD (k) 0):Int)=cmpL x y)),rfl⟩)
 replace hc3:=Al hc3
 refine GC.skip (GE.blockN (GE.then_ (GC.region ?_)))
 refine G.stepD (OD.addI rfl rfl rfl (by omega)) rfl rfl rfl ?_
 refine G.stepD (OD.move rfl rfl) rfl rfl rfl ?_
 refine G.nil ?_
 exact GE.again (k+1) (⟨by omega,by omega,by rw[hc];exact cmp_eq (by omega) (by omega) (by assumption)⟩) (by first | omega | (dsimp only;omega)) ⟨rfl,rfl,rfl,rfl,rfl,trivial⟩ [] 0 rfl
 replace hc1:=of_decide_eq_false hc1
 refine GC.exit (GE.pass (GE.pass (GE.hit (GE.then_ (GC.seq (GC.seq (GC.region ?_)))))))
 refine G.stepD (OD.move rfl rfl) rfl rfl rfl ?_
 refine G.stepD (OD.len rfl rfl Ac rfl ex) rfl rfl rfl ?_
 refine G.stepD (OD.move rfl rfl) rfl rfl rfl ?_
 refine G.stepD (OD.len rfl rfl Ac rfl ey) rfl rfl rfl ?_
 refine G.stepD (OD.lss rfl rfl rfl) rfl rfl rfl ?_
 refine G.nil (GE.then_ ?_)
 refine GC.cond rfl (fun hc4=>?_) (fun hc4=>?_)
 replace hc4:=of_decide_eq_true hc4
 refine GC.seq (GC.region ?_)
 refine G.stepD (OD.assign rfl rfl) rfl rfl rfl ?_
 refine G.nil (GE.then_ (GC.ret (GE.passR ?_)))
 exact GE.body [] 0 (Ao rfl rfl) rfl (⟨congrArg (fun(a0:Int)=>(.int .i64 (a0):Value)) ((by rw[hc,RL (by omega) hk (Or.inr trivial),if_pos (by omega)]:(-1:Int)=cmpL x y)),rfl⟩)
 replace hc4:=of_decide_eq_false hc4
 refine GC.skip (GE.then_ (GC.seq (GC.region ?_)))
 refine G.stepD (OD.assign rfl rfl) rfl rfl rfl ?_
 refine G.nil (GE.then_ (GC.ret ?_))
 exact GE.body [] 0 (Ao rfl rfl) rfl (⟨congrArg (fun(a0:Int)=>(.int .i64 (a0):Value)) ((by rw[hc,RL (by omega) hk (Or.inr trivial),if_neg (by omega)]:(0:Int)=cmpL x y)),rfl⟩)
theorem Ym {W:World}{own:List Asn}{vx:Value}{x:List Int}(sx:Ab vx)(ex:Ent own fun w=>Ints w vx x)(hx:x.length=2):Spec Tryz.prog 114 [vx] W own (fun v ow=>v = .int .i64 (fQ x)∧ow=own):=by
 refine Spec.enter Tryz.f114 _ Tryz.func114 rfl (n:=18) rfl rfl ?_
 refine GC.seq (GC.region ?_)
 refine G.stepD (OD.assign rfl rfl) rfl rfl rfl ?_
 refine G.nil (GE.then_ (GC.seq (GC.region ?_)))
 refine G.stepD (OD.assign rfl rfl) rfl rfl rfl ?_
 refine G.nil (GE.then_ (GC.seq (GC.seq (GC.region ?_))))
 refine G.stepD (OD.move rfl rfl) rfl rfl rfl ?_
 refine G.stepD (OD.len rfl rfl Ac rfl ex) rfl rfl rfl ?_
 refine G.stepD (OD.move rfl rfl) rfl rfl rfl ?_
 refine G.nil (GE.then_ (GC.block ?_))
 refine GC.loop (ι:=Nat) (fun k=>[(3,.int .i64 (0)),(6,vx),(7,.int .i64 ((x.length:Nat))),(8,.int .i64 ((k:Int)))]) (fun k=>own) (fun k=>(k≤x.length)∧(∀ j,j<k→x.getD j 0=0)) (fun k=>x.length - k) 0 (⟨by omega,fun j hj=>by omega⟩) ⟨rfl,rfl,rfl,rfl,trivial⟩ [] 0 rfl ?_
 rintro k ⟨hk,ht⟩
 refine GC.seq (GC.region ?_)
 refine G.stepD (OD.lss rfl rfl rfl) rfl rfl rfl ?_
 refine G.nil (GE.then_ (GC.seq ?_))
 refine GC.cond rfl (fun hc1=>?_) (fun hc1=>?_)
 replace hc1:=of_decide_eq_true hc1
 refine GC.skip (GE.then_ (GC.seq (GC.block (GC.seq (GC.region ?_)))))
 refine G.stepD (OD.indexAddr rfl Ac rfl ex rfl (by omega)) rfl rfl rfl ?_
 refine G.stepD (OD.loadInt rfl Ak rfl ex (by omega)) rfl rfl rfl ?_
 refine G.stepD (OD.assign rfl rfl) rfl rfl rfl ?_
 refine G.nil (GE.then_ (GC.seq (GC.region ?_)))
 refine G.stepD (OD.move rfl rfl) rfl rfl rfl ?_
 refine G.stepD (OD.move rfl rfl) rfl rfl rfl ?_
 refine G.stepD (OD.neq rfl rfl rfl) rfl rfl rfl ?_
 refine G.nil (GE.then_ ?_)
 refine GC.cond rfl (fun hc2=>?_) (fun hc2=>?_)
 replace hc2:=AA hc2
 refine GC.seq (GC.region ?_)
 refine G.stepD (OD.move rfl rfl) rfl rfl rfl ?_
 refine G.stepD (OD.assign rfl rfl) rfl rfl rfl ?_
 refine G.nil (GE.then_ (GC.ret (GE.blockR (GE.passR (GE.passR (GE.blockR (GE.passR ?_)))))))
 exact GE.body [] 0 (Ao rfl rfl) rfl (⟨congrArg (fun(a0:Int)=>(.int .i64 (a0):Value)) ((by rw[gL hx];exact(dY hx (by omega) ht (by assumption)).symm:(x.getD (k) 0:Int)=fQ x)),rfl⟩)
 replace hc2:=Al hc2
 refine GC.skip (GE.blockN (GE.then_ (GC.region ?_)))
 refine G.stepD (OD.addI rfl rfl rfl (by omega)) rfl rfl rfl ?_
 refine G.stepD (OD.move rfl rfl) rfl rfl rfl ?_
 refine G.nil ?_
 exact GE.again (k+1) (⟨by omega,fun j hj=>(Nat.lt_succ_iff_lt_or_eq.1 hj).elim (ht j) (fun e=>by rw[e];assumption)⟩) (by first | omega | (dsimp only;omega)) ⟨rfl,rfl,rfl,rfl,trivial⟩ [] 0 rfl
 replace hc1:=of_decide_eq_false hc1
 refine GC.exit (GE.pass (GE.pass (GE.hit (GE.then_ (GC.seq (GC.region ?_))))))
 refine G.stepD (OD.move rfl rfl) rfl rfl rfl ?_
 refine G.stepD (OD.assign rfl rfl) rfl rfl rfl ?_
 refine G.nil (GE.then_ (GC.ret ?_))
 exact GE.body [] 0 (Ao rfl rfl) rfl (⟨congrArg (fun(a0:Int)=>(.int .i64 (a0):Value)) ((by rw[gL hx];exact(dQ hx (by omega) ht).symm:(0:Int)=fQ x)),rfl⟩)
theorem rootLess_w {W:World}{own:List Asn}{vx:Value}{x:List Int}{vy:Value}{y:List Int}(sx:Ab vx)(ex:Ent own fun w=>Ints w vx x)(sy:Ab vy)(ey:Ent own fun w=>Ints w vy y)(hl:x.length≤1073741824)(hly:y.length≤1073741824):Spec Tryz.prog 113 [vx,vy] W own (fun v ow=>v = .int .i64 (Er x y)∧ow=own):=by
 refine Spec.enter Tryz.f113 _ Tryz.func113 rfl (n:=15) rfl rfl ?_
 refine GC.seq (GC.region ?_)
 refine G.stepD (OD.assign rfl rfl) rfl rfl rfl ?_
 refine G.nil (GE.then_ (GC.seq (GC.region ?_)))
 refine G.stepD (OD.move rfl rfl) rfl rfl rfl ?_
 refine G.step (OG.call [vx] KM rfl rfl rfl rfl (by exact(Et sx ex (hl)))) rfl rfl rfl ?_
 rintro _ _ ⟨rfl,hzz⟩;obtain rfl:=hzz.symm
 refine G.stepD (OD.move rfl rfl) rfl rfl rfl ?_
 refine G.step (OG.call [vy] KM rfl rfl rfl rfl (by exact(Et sy ey (hly)))) rfl rfl rfl ?_
 rintro _ _ ⟨rfl,hzz⟩;obtain rfl:=hzz.symm
 refine G.step (OG.call [.int .i64 (Ci x),.int .i64 (Ci y)] Vw rfl rfl rfl rfl (by exact Vx)) rfl rfl rfl ?_
 rintro _ _ ⟨rfl,hzz⟩;obtain rfl:=hzz.symm
 refine G.stepD (OD.move rfl rfl) rfl rfl rfl ?_
 refine G.stepD (OD.move rfl rfl) rfl rfl rfl ?_
 refine G.step (OG.call [vy,vx] dm rfl rfl rfl rfl (by exact(SH sy ey sx ex (hly) (hl)))) rfl rfl rfl ?_
 rintro _ _ ⟨rfl,hzz⟩;obtain rfl:=hzz.symm
 refine G.step (OG.buildInts (xs:=[.tmp 9,.tmp 12]) (is:=[Ea (Ci x) (Ci y),cmpL y x]) rfl Ac rfl rfl rfl rfl rfl) rfl rfl rfl ?_
 rintro v1 _ ⟨hs2,rfl⟩
 refine G.step (OG.call [v1] bZ rfl rfl rfl rfl (by exact(Ym hs2 (Ent.ints (i:=0) rfl) (rfl)))) rfl rfl rfl ?_
 rintro _ _ ⟨rfl,rfl⟩
 refine G.stepD (OD.assign rfl rfl) rfl rfl rfl ?_
 refine G.nil (GE.then_ (GC.ret ?_))
 exact GE.body [] 1 (Ao rfl rfl) rfl (⟨rfl,rfl⟩)
end Go.Proofs.YtbmnnbglipkidaaGreatDoor.D
