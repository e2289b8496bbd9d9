/-
  Lists put together, put in order; the positive roots by the second text: contracts by walks.
-/
import Derived.Test.YtbmnnbglipkidaaGreatDoorZ58
namespace Go.Proofs.YtbmnnbglipkidaaGreatDoor
set_option maxRecDepth 100000
set_option linter.unusedVariables false
set_option linter.unusedSimpArgs false
open Go.RowKit
theorem Et {W:World}{own:List Asn}{vx:Value}{x:List Int}(sx:Ab vx)(ex:Ent own fun w=>Ints w vx x)(hl:x.length≤1073741824):Spec Tryz.prog 99 [vx] W own (fun v ow=>v=J (Ci x)∧ow=own):=by
 refine Spec.enter Tryz.f99 _ Tryz.func99 rfl (n:=17) rfl rfl ?_
 refine Zs (Zr (Za rfl (Zn (Zt (Zs (Zr (Za rfl (Zn (Zt (Zs (Zs (Zr (Zm rfl (Zd (Qn Ac ex) rfl ?_))))))))))))))
 refine Zm rfl (Zn (Zt (GC.block ?_)))
 refine Yl (ι:=Nat × Int) (fun⟨k,q⟩=>[(6,vx),(7,J ((x.length:Nat))),(3,J (q)),(8,J ((k:Int)))]) (fun⟨k,q⟩=>own) (fun⟨k,q⟩=>(k≤x.length)∧(q=(List.range k).foldl (fun(s:Int) (i:Nat)=>IntKind.i64.wrap (s+x.getD i 0)) 0)) (fun⟨k,q⟩=>x.length - k) (0,0) (⟨by omega,rfl⟩) [] 0 ?_
 rintro⟨k,q⟩ ⟨hk,hq⟩
 refine Zs (Zr (Zd Bb rfl ?_))
 refine Zn (Zt (Zs ?_))
 refine GC.cond rfl (fun hc1=>?_) (fun hc1=>?_)
 replace hc1:=of_decide_eq_true hc1
 refine Zk (Zt (Zs (GC.block (Zs (Zr ?_)))))
 refine Zd (Qi Ac ex) rfl ?_
 refine Zd (Qv Ak ex) rfl ?_
 refine Za rfl (Zn (Zt (Zr (Zm rfl (Zm rfl (Zd Ha rfl ?_))))))
 refine Za rfl (Zn (GE.blockN (Zt (Zr ?_))))
 refine Zd Qp rfl ?_
 exact Zm rfl (Zn (Yg (k+1,IntKind.i64.wrap (q+(x.getD (k) 0))) (⟨by omega,Ar hq rfl⟩) [] 0))
 replace hc1:=of_decide_eq_false hc1
 refine GC.exit (Zp (Zp (GE.hit (Zt (Zs (Zr ?_))))))
 refine Zm rfl (Za rfl (Zn (Zt (GC.ret ?_))))
 exact GE.body [] 0 (Ao rfl rfl) rfl (⟨congrArg (fun a0=>(J (a0):Value)) ((by rw[hq,show k=x.length by omega];rfl:(q:Int)=Ci x)),rfl⟩)
theorem Ew {W:World}{own:List Asn}{vx:Value}{x:List Int}(sx:Ab vx)(ex:Ent own fun w=>Ints w vx x)(hl:x.length≤1073741824):Spec Tryz.prog 151 [vx] W own (fun v ow=>v=J (Ci x)∧ow=own):=by
 refine Spec.enter Tryz.f151 _ Tryz.func151 rfl (n:=18) rfl rfl ?_
 refine Zs (Zr (Za rfl (Zn (Zt (Zs (Zr (Za rfl (Zn (Zt (Zs (Zs (Zr (Za rfl (Zn (Zt (GC.block ?_))))))))))))))))
 refine Yl (ι:=Nat × Int) (fun⟨k,q⟩=>[(0,vx),(3,J (q)),(4,J ((k:Int)))]) (fun⟨k,q⟩=>own) (fun⟨k,q⟩=>(k≤x.length)∧(q=(List.range k).foldl (fun(s:Int) (i:Nat)=>IntKind.i64.wrap (s+x.getD i 0)) 0)) (fun⟨k,q⟩=>x.length - k) (0,0) (⟨by omega,rfl⟩) [] 0 ?_
 rintro⟨k,q⟩ ⟨hk,hq⟩
 refine Zs (Zs (Zr (Zm rfl (Zm rfl (Zd (Qn Ac ex) rfl ?_)))))
 refine Zd Bb rfl ?_
 refine Zn (Zt ?_)
 refine GC.cond rfl (fun hc1=>?_) (fun hc1=>?_)
 replace hc1:=of_decide_eq_true hc1
 refine Zk (Zt (Zs (GC.block (Zr ?_))))
 refine Zm rfl (Zm rfl (Zm rfl (Zd (Qi Ac ex) rfl ?_)))
 refine Zd (Qv Ak ex) rfl ?_
 refine Zd Ha rfl ?_
 refine Za rfl (Zn (GE.blockN (Zt (Zr ?_))))
 refine Zm rfl (Zd Qp rfl ?_)
 exact Za rfl (Zn (Yg (k+1,IntKind.i64.wrap (q+(x.getD (k) 0))) (⟨by omega,Ar hq rfl⟩) [] 0))
 replace hc1:=of_decide_eq_false hc1
 refine GC.exit (Zp (Zp (GE.hit (Zt (Zs (Zr ?_))))))
 refine Zm rfl (Za rfl (Zn (Zt (GC.ret ?_))))
 exact GE.body [] 0 (Ao rfl rfl) rfl (⟨congrArg (fun a0=>(J (a0):Value)) ((by rw[hq,show k=x.length by omega];rfl:(q:Int)=Ci x)),rfl⟩)
theorem TM {W:World}{own:List Asn}{n:Int}{i:Int}(hn:0≤n∧n≤4)(hi:0≤i∧i<n):Spec Tryz.prog 75 [J (n),J (i)] W own (fun v ow=>∃ (r0:Value),v=r0∧Ab r0∧ow=ints 3 r0 (unitL n.toNat i.toNat)::own):=by
 refine Spec.enter Tryz.f75 _ Tryz.func75 rfl (n:=12) rfl rfl ?_
 refine Zs (Zr (Za rfl (Zn (Zt (Zs (Zr (Zm rfl (Yt (OG.makeInts rfl Ac rfl rfl (by omega)) ?_))))))))
 rintro v1 _ ⟨hs2,rfl⟩
 refine Za rfl (Zn (Zt (Zs (Zr (Zm rfl (Zm rfl (Zd (OD.indexAddr rfl Ac rfl (Ei 0) rfl (by first | omega | (simp only[List.length_set,List.length_replicate];omega))) rfl ?_)))))))
 refine G.stepD0 (OD.storeInt rfl Ak rfl rfl (i:=0) rfl (by first | omega | (simp only[List.length_set,List.length_replicate];omega))) rfl rfl ?_
 refine Zn (Zt (Zs (Zr (Zm rfl (Za rfl (Zn (Zt (GC.ret ?_))))))))
 exact GE.body [] 0 (Ao rfl rfl) rfl (⟨v1,rfl,hs2,congrArg (fun l0=>ints 3 v1 l0::own) ((Fk (by omega):(List.replicate (n:Int).toNat (0:Int)).set ((i:Int).toNat) (1)=unitL n.toNat i.toNat))⟩)
theorem SZ {W:World}{own:List Asn}{n:Int}{i:Int}(hn:0≤n∧n≤4)(hi:0≤i∧i<n):Spec Tryz.prog 73 [J (n),J (i)] W own (fun v ow=>∃ (r0:Value),v=r0∧Ab r0∧ow=ints 3 r0 (unitL n.toNat i.toNat)::own):=by
 refine Spec.enter Tryz.f73 _ Tryz.func73 rfl (n:=12) rfl rfl ?_
 refine Zs (Zr (Za rfl (Zn (Zt (Zs (Zr (Zm rfl (Yt (OG.makeInts rfl Ac rfl rfl (by omega)) ?_))))))))
 rintro v1 _ ⟨hs2,rfl⟩
 refine Za rfl (Zn (Zt (Zs (Zr (Zm rfl (Zm rfl (Zd (OD.indexAddr rfl Ac rfl (Ei 0) rfl (by first | omega | (simp only[List.length_set,List.length_replicate];omega))) rfl ?_)))))))
 refine G.stepD0 (OD.storeInt rfl Ak rfl rfl (i:=0) rfl (by first | omega | (simp only[List.length_set,List.length_replicate];omega))) rfl rfl ?_
 refine Zn (Zt (Zs (Zr (Zm rfl (Za rfl (Zn (Zt (GC.ret ?_))))))))
 exact GE.body [] 0 (Ao rfl rfl) rfl (⟨v1,rfl,hs2,congrArg (fun l0=>ints 3 v1 l0::own) ((Fk (by omega):(List.replicate (n:Int).toNat (0:Int)).set ((i:Int).toNat) (1)=unitL n.toNat i.toNat))⟩)
theorem Dg {W:World}{own:List Asn}{vx:Value}{x:List Int}(sx:Ab vx)(ex:Ent own fun w=>Ints w vx x)(hl:x.length≤1073741824):Spec Tryz.prog 95 [vx] W own (fun v ow=>v = .bool (EJ x)∧ow=own):=by
 refine Spec.enter Tryz.f95 _ Tryz.func95 rfl (n:=15) rfl rfl ?_
 refine Zs (Zr (Za rfl (Zn (Zt (Zs (Zs (Zr (Za rfl (Zn (Zt (GC.block ?_)))))))))))
 refine Yl (ι:=Nat) (fun k=>[(0,vx),(3,J ((k:Int)))]) (fun k=>own) (fun k=>(k≤x.length)∧((x.take k).any (fun(y:Int)=>decide (y<0))=false)) (fun k=>x.length - k) 0 (⟨by omega,by simp⟩) [] 0 ?_
 rintro k ⟨hk,ht⟩
 refine Zs (Zs (Zr (Zm rfl (Zm rfl (Zd (Qn Ac ex) rfl ?_)))))
 refine Zd Bb rfl ?_
 refine Zn (Zt ?_)
 refine GC.cond rfl (fun hc1=>?_) (fun hc1=>?_)
 replace hc1:=of_decide_eq_true hc1
 refine Zk (Zt (Zs (GC.block (Zs (Zr ?_)))))
 refine Zm rfl (Zm rfl (Zd (Qi Ac ex) rfl ?_))
 refine Zd (Qv Ak ex) rfl ?_
 refine Zd Bb rfl ?_
 refine Zn (Zt ?_)
 refine GC.cond rfl (fun hc2=>?_) (fun hc2=>?_)
 replace hc2:=of_decide_eq_true hc2
 refine Zs (Zr (Za rfl (Zn (Zt (GC.ret (GE.blockR (GE.passR (GE.passR (GE.blockR (GE.passR ?_))))))))))
 exact GE.body [] 0 (Ao rfl rfl) rfl (⟨congrArg (fun a0=>(.bool (a0):Value)) ((by rw[EJ,(List.any_eq_true.2 ⟨x.getD k 0,by simp[List.getD,show k<x.length by omega],decide_eq_true (by assumption)⟩:x.any (fun(y:Int)=>decide (y<0))=true)];rfl:(false:Bool)=EJ x)),rfl⟩)
 replace hc2:=of_decide_eq_false hc2
 refine Zk (GE.blockN (Zt (Zr ?_)))
 refine Zm rfl (Zd Qp rfl ?_)
 exact Za rfl (Zn (Yg (k+1) (⟨by omega,any_take_succ (d:=0) (by omega) ht (decide_eq_false (by assumption))⟩) [] 0))
 replace hc1:=of_decide_eq_false hc1
 refine GC.exit (Zp (Zp (GE.hit (Zt (Zs (Zr ?_))))))
 refine Za rfl (Zn (Zt (GC.ret ?_)))
 exact GE.body [] 0 (Ao rfl rfl) rfl (⟨congrArg (fun a0=>(.bool (a0):Value)) ((by rw[EJ,Cj (by omega) ht];rfl:(true:Bool)=EJ x)),rfl⟩)
theorem Cw {W:World}{own:List Asn}{vL:Value}{uL:List Value}{L:List (List Int)}{vx:Value}{x:List Int}(sL:Ab vL)(eL:Ent own fun w=>Sl w vL L.length 1 uL)(mL:∀ k,k<L.length→Ent own fun w=>Ints w (uL.getD k undef) (L.getD k []))(lL:uL.length=L.length)(aL:AllS uL)(sx:Ab vx)(ex:Ent own fun w=>Ints w vx x)(hll:L.length≤1073741824)(hle:∀ k,k<L.length→(L.getD k []).length≤1073741824):Spec Tryz.prog 96 [vL,vx] W own (fun v ow=>v=J (plF L x)∧ow=own):=by
 refine Spec.enter Tryz.f96 _ Tryz.func96 rfl (n:=19) rfl rfl ?_
 refine Zs (Zr (Za rfl (Zn (Zt (Zs (Zs (Zr (Za rfl (Zn (Zt (GC.block ?_)))))))))))
 refine Yl (ι:=Nat) (fun k=>[(0,vL),(1,vx),(5,J ((k:Int)))]) (fun k=>own) (fun k=>(k≤L.length)∧((L.take k).any (fun y=>Cu y x)=false)) (fun k=>L.length - k) 0 (⟨by omega,by simp⟩) [] 0 ?_
 rintro k ⟨hk,ht⟩
 refine Zs (Zs (Zr (Zm rfl (Zm rfl (Zd (Qn AM eL) rfl ?_)))))
 refine Zd Bb rfl ?_
 refine Zn (Zt ?_)
 refine GC.cond rfl (fun hc1=>?_) (fun hc1=>?_)
 replace hc1:=of_decide_eq_true hc1
 refine Zk (Zt (Zs (GC.block (Zs (Zr ?_)))))
 refine Zm rfl (Zm rfl (Zd (Qi AM eL) rfl ?_))
 refine Zd (OD.loadElem rfl AH rfl eL (by omega) rfl) rfl ?_
 refine Zm rfl (Yt (Yc [(uL.getD (k) undef),vx] MR (by exact(F9 (aL.get (by omega)) ((mL (k) (by omega))) sx ex (Nat.le_trans (hle _ (by omega)) (by decide))))) ?_)
 rintro _ _ ⟨rfl,hzz⟩;obtain rfl:=hzz.symm
 refine Zn (Zt ?_)
 refine GC.cond rfl (fun hc2=>?_) (fun hc2=>?_)
 refine Zs (Zr (Zm rfl (Za rfl (Zn (Zt (GC.ret (GE.blockR (GE.passR (GE.passR (GE.blockR (GE.passR ?_)))))))))))
 exact GE.body [] 0 (Ao rfl rfl) rfl (⟨congrArg (fun a0=>(J (a0):Value)) (((Gu (d:=[]) (by omega) ht (by assumption)).symm:((k:Int):Int)=plF L x)),rfl⟩)
 refine Zk (GE.blockN (Zt (Zr ?_)))
 refine Zm rfl (Zd Qp rfl ?_)
 exact Za rfl (Zn (Yg (k+1) (⟨by omega,any_take_succ (d:=[]) (by omega) ht (by assumption)⟩) [] 0))
 replace hc1:=of_decide_eq_false hc1
 refine GC.exit (Zp (Zp (GE.hit (Zt (Zs (Zr ?_))))))
 refine Za rfl (Zn (Zt (GC.ret ?_)))
 exact GE.body [] 0 (Ao rfl rfl) rfl (⟨congrArg (fun a0=>(J (a0):Value)) (((D2 (Cj (by omega) ht)).symm:(-1:Int)=plF L x)),rfl⟩)
theorem TV {W:World}{own:List Asn}{vx:Value}{x:List Int}{vy:Value}{y:List Int}(sx:Ab vx)(ex:Ent own fun w=>Ints w vx x)(sy:Ab vy)(ey:Ent own fun w=>Ints w vy y)(hl:x.length≤1073741824)(hxy:x.length=y.length):Spec Tryz.prog 97 [vx,vy] W own (fun v ow=>v = .bool (Sr x y)∧ow=own):=by
 refine Spec.enter Tryz.f97 _ Tryz.func97 rfl (n:=40) rfl rfl ?_
 refine Zs (Zr (Za rfl (Zn (Zt (Zs (Zs (Zr (Zm rfl (Yt (Yc [vx] MA (by exact(Ew sx ex (by omega)))) ?_)))))))))
 rintro _ _ ⟨rfl,hzz⟩;obtain rfl:=hzz.symm
 refine Zm rfl (Yt (Yc [vy] MA (by exact(Ew sy ey (by omega)))) ?_)
 rintro _ _ ⟨rfl,hzz⟩;obtain rfl:=hzz.symm
 refine Zd EK rfl ?_
 refine Zn (Zt ?_)
 refine GC.cond rfl (fun hc1=>?_) (fun hc1=>?_)
 replace hc1:=AA hc1
 refine Zs (Zr (Zm rfl (Yt (Yc [vx] MA (by exact(Ew sx ex (by omega)))) ?_)))
 rintro _ _ ⟨rfl,hzz⟩;obtain rfl:=hzz.symm
 refine Zm rfl (Yt (Yc [vy] MA (by exact(Ew sy ey (by omega)))) ?_)
 rintro _ _ ⟨rfl,hzz⟩;obtain rfl:=hzz.symm
 refine Zd Bb rfl ?_
 refine Za rfl (Zn (Zt (GC.ret (GE.passR ?_))))
 exact GE.body [] 0 (Ao rfl rfl) rfl (⟨congrArg (fun a0=>(.bool (a0):Value)) ((by rw[Sr,if_pos hc1]:(decide (Ci x<Ci y):Bool)=Sr x y)),rfl⟩)
 replace hc1:=Al hc1
 refine Zk (Zt (Zs (Zs (Zr (Za rfl (Zn (Zt (GC.block ?_))))))))
 refine Yl (ι:=Nat) (fun k=>[(0,vx),(1,vy),(5,J ((k:Int)))]) (fun k=>own) (fun k=>(k≤x.length)∧(Hu x y=Hu (x.drop k) (y.drop k))) (fun k=>x.length - k) 0 (⟨by omega,rfl⟩) [] 0 ?_
 rintro k ⟨hk,hc⟩
 refine Zs (Zs (Zr (Zm rfl (Zm rfl (Zd (Qn Ac ex) rfl ?_)))))
 refine Zd Bb rfl ?_
 refine Zn (Zt ?_)
 refine GC.cond rfl (fun hc2=>?_) (fun hc2=>?_)
 replace hc2:=of_decide_eq_true hc2
 refine Zk (Zt (Zs (GC.block (Zs ?_))))
 refine Ya [(0,_),(1,_),(5,_)] ?_
 refine Wp [Z0 22 vx,Z0 23 (J ((k:Int))),Z1 24 [(0,22),(1,23)] (Aa vx 1 (k)),Z1 25 [(2,24)] (J (x.getD (k) 0)),Z0 26 vy,Z0 27 (J ((k:Int))),Z1 28 [(4,26),(5,27)] (Aa vy 1 (k)),Z1 29 [(6,28)] (J (y.getD (k) 0)),Z1 30 [(3,25),(7,29)] (.bool ((x.getD (k) 0) != (y.getD (k) 0)))] (Yv (Yv (Zc (fun _ _ _=>Zq (Qi Ac (ex.app)) rfl) (Zc (fun _ _ _=>Zq (Qv Ak (ex.app)) rfl) (Yv (Yv (Zc (fun _ _ _=>Zq (Qi Ac (ey.app)) rfl) (Zc (fun _ _ _=>Zq (Qv Ak (ey.app)) rfl) (Zc (fun _ _ _=>Zq EK rfl) As.nil))))))))) ?_
 intro θ _
 refine Yb [(0,_),(1,_),(5,_),(30,.bool ((x.getD (k) 0) != (y.getD (k) 0)))] (own) ?_
 show G _ _ _ [] _ _ _ _
 refine Zn (Zt ?_)
 refine GC.cond rfl (fun hc3=>?_) (fun hc3=>?_)
 replace hc3:=AA hc3
 refine Zs (Ya [(0,_),(1,_),(5,_)] ?_)
 refine Wp [Z0 31 vx,Z0 32 (J ((k:Int))),Z1 33 [(0,31),(1,32)] (Aa vx 1 (k)),Z1 34 [(2,33)] (J (x.getD (k) 0)),Z0 35 vy,Z0 36 (J ((k:Int))),Z1 37 [(4,35),(5,36)] (Aa vy 1 (k)),Z1 38 [(6,37)] (J (y.getD (k) 0)),Z1 39 [(3,34),(7,38)] (.bool (decide (y.getD (k) 0<x.getD (k) 0)))] (Yv (Yv (Zc (fun _ _ _=>Zq (Qi Ac (ex.app)) rfl) (Zc (fun _ _ _=>Zq (Qv Ak (ex.app)) rfl) (Yv (Yv (Zc (fun _ _ _=>Zq (Qi Ac (ey.app)) rfl) (Zc (fun _ _ _=>Zq (Qv Ak (ey.app)) rfl) (Zc (fun _ _ _=>Zq (OD.gtr rfl rfl rfl) rfl) As.nil))))))))) ?_
 intro θ _
 refine Yb [(39,.bool (decide (y.getD (k) 0<x.getD (k) 0)))] (own) ?_
 show G _ _ _ [_] _ _ _ _
 refine Za rfl (Zn (Zt (GC.ret (GE.blockR (GE.passR (GE.passR (GE.blockR (GE.passR ?_))))))))
 exact GE.body [] 0 (Ao rfl rfl) rfl (⟨congrArg (fun a0=>(.bool (a0):Value)) ((by rw[Sr,if_neg (fun h=>h hc1),hc];exact(bE (by omega) (by omega) (by assumption)).symm:(decide (y.getD (k) 0<x.getD (k) 0):Bool)=Sr x y)),rfl⟩)
 replace hc3:=Al hc3
 refine Zk (GE.blockN (Zt (Zr ?_)))
 refine Zm rfl (Zd Qp rfl ?_)
 exact Za rfl (Zn (Yg (k+1) (⟨by omega,by rw[hc];exact cn (by omega) (by omega) (by assumption)⟩) [] 0))
 replace hc2:=of_decide_eq_false hc2
 refine GC.exit (Zp (Zp (GE.hit (Zt (Zs (Zr ?_))))))
 refine Za rfl (Zn (Zt (GC.ret ?_)))
 exact GE.body [] 0 (Ao rfl rfl) rfl (⟨congrArg (fun a0=>(.bool (a0):Value)) ((by rw[Sr,if_neg (fun h=>h hc1),hc,Yx (by omega) (by omega) (by omega)];exact(decide_eq_false (by omega)).symm:(false:Bool)=Sr x y)),rfl⟩)
set_option maxHeartbeats 4000000 in
theorem Fo {W:World}{own:List Asn}{cr:Int}{vcd:Value}{cd:List Int}(scd:Ab vcd)(ecd:Ent own fun w=>Ints w vcd cd)(hcr:1≤cr∧cr≤4)(hcd:(cd.length:Int)=cr*cr)(hty:(Ax cr cd).isSome=true):Spec Tryz.prog 39 [.agg #[J (cr),vcd]] W own (fun v ow=>∃ (r0:Value) (u0:List Value),v=r0∧Ab r0∧AllS u0∧u0.length=(rSt cr cd).length∧ow=lst 22 r0 u0::many (ints 3) u0 (rSt cr cd)::own):=by
 refine Spec.enter Tryz.f39 _ Tryz.func39 rfl (n:=97) rfl rfl ?_
 refine Zs (Zr (Yt (OG.box (cs:=[J (cr),vcd]) rfl rfl rfl) ?_))
 rintro _ _ ⟨g1,rfl,rfl⟩
 refine Za rfl (Zn (Zt (Zs (Zr (Yt (OG.buildLst (xs:=[]) (us:=[]) rfl AM rfl rfl rfl rfl rfl) ?_)))))
 rintro v2 _ ⟨hs3,rfl⟩
 refine Za rfl (Zn (Zt (Zs (Zs (Zr (Za rfl (Zn (Zt (GC.block ?_)))))))))
 refine GC.many0 (ints 3) ?_
 refine Yl (ι:=Nat × List Value × Value) (fun⟨i,us,v⟩=>[(1,Pg g1 0),(3,v),(4,J ((i:Int)))]) (fun⟨i,us,v⟩=>many (ints 3) us ((List.range i).map (unitL cr.toNat))::lst 22 v us::box g1 27 [J (cr),vcd]::own) (fun⟨i,us,v⟩=>(i≤cr.toNat)∧(AllS us)∧(us.length=i)∧(Ab v)) (fun⟨i,us,v⟩=>cr.toNat - i) (0,[],v2) (⟨by omega,AllS.nil,rfl,hs3⟩) [] 0 ?_
 rintro⟨i,us,v⟩ ⟨hi,ha,hul,hv⟩
 have hxl:((List.range i).map (unitL cr.toNat)).length=i:=by simp
 refine Zs (Zs (Zr (Zm rfl (Zd (Qf Aq) rfl ?_))))
 refine Zd (Ql Ak 2) rfl ?_
 refine Zd Bb rfl ?_
 refine Zn (Zt ?_)
 refine GC.cond rfl (fun hc4=>?_) (fun hc4=>?_)
 replace hc4:=of_decide_eq_true hc4
 refine Zk (Zt (Zs (GC.block (Zr ?_))))
 refine Zm rfl (Zd (Qf Aq) rfl ?_)
 refine Zd (Ql Ak 2) rfl ?_
 refine Zm rfl (Yt (Yc [J (cr),J ((i:Int))] NG (by exact(SZ (by omega) (by omega)))) ?_)
 rintro v5 _ ⟨_,rfl,hs6,rfl⟩
 refine Yt (OG.buildLst (xs:=[.tmp 22]) (us:=[v5]) rfl AM rfl rfl rfl (Ad (Ab.one hs6) rfl) rfl) ?_
 rintro v7 _ ⟨hs8,rfl⟩
 refine Yt (OG.appendLst 3 rfl rfl AM rfl rfl rfl (Ent.lst (i:=0) rfl) (List.all_eq_true.2 fun u hu=>by simpa using(AllS.snoc AllS.nil hs6).one u hu) (by simp[maxLen] <;> omega)) ?_
 rintro v9 _ ⟨hs10,rfl⟩
 refine Za rfl (Zn (GE.blockN (Zt (Zr ?_))))
 refine Zm rfl (Zd Qp rfl ?_)
 refine Za rfl (Zn (Yr [1,1,0,0,0] (_::_::_::_::_::own) ?_))
 refine GE.manyPush (by omega) ?_
 refine GE.ownEq (own':=many (ints 3) (us++[v5]) ((List.range (i+1)).map (unitL cr.toNat))::lst 22 v7 [v5]::lst 22 v9 (us++[v5])::box g1 27 [J (cr),vcd]::own) (by erw [FK] <;> rfl) ?_
 exact Yg (i+1,us++[v5],v9) (⟨by omega,(ha.snoc hs6),by rw[List.length_append,List.length_singleton];omega,hs10⟩) [0,1,1] 1
 replace hc4:=of_decide_eq_false hc4
 refine GC.exit (Zp (Zp (GE.hit (Zt (Zs (Zs (Zr ?_)))))))
 refine Za rfl (Zn (Zt (GC.block ?_)))
 refine Yl (ι:=Nat × Nat × List (List Int) × List Value × Value) (fun⟨f,k,fs,us,v⟩=>[(1,Pg g1 0),(3,v),(5,J ((k:Int)))]) (fun⟨f,k,fs,us,v⟩=>many (ints 3) us fs::lst 22 v us::box g1 27 [J (cr),vcd]::own) (fun⟨f,k,fs,us,v⟩=>(rC cr cd f fs k=some (rFd cr cd))∧(AllS us)∧(us.length=fs.length)∧(Ab v)) (fun⟨f,k,fs,us,v⟩=>f) (40,0,((List.range i).map (unitL cr.toNat)),us,v) (⟨(rtOk hty).first (by omega) hi,ha,by rw[hul];simp,hv⟩) [] 0 ?_
 rintro⟨f,k,fs,us,v⟩ ⟨hf,ha,hul,hv⟩
 have hfl:fs.length≤30:=Nat.le_trans (FM hf).len (rtOk hty).few
 refine Zs (Zs (Zr (Zm rfl (Zm rfl (Zd (Qn AM (Ent.lst (i:=1) rfl)) rfl ?_)))))
 refine Zd Bb rfl ?_
 refine Zn (Zt ?_)
 refine GC.cond rfl (fun hc11=>?_) (fun hc11=>?_)
 replace hc11:=of_decide_eq_true hc11
 obtain⟨g,hgg,hst,hpre⟩:=RB hf (by omega)
 refine Zk (Zt (Zs (GC.block (Zs (Zr ?_)))))
 refine Za rfl (Zn (Zt (GC.block ?_)))
 refine Yl (ι:=Nat × List (List Int) × List Value × Value) (fun⟨i,gs,ut,w⟩=>[(1,Pg g1 0),(5,J ((k:Int))),(3,w),(6,J ((i:Int)))]) (fun⟨i,gs,ut,w⟩=>many (ints 3) ut gs::lst 22 w ut::box g1 27 [J (cr),vcd]::own) (fun⟨i,gs,ut,w⟩=>(i≤cr.toNat)∧(gs=(List.range i).foldl (DI cr cd (fs.getD k [])) fs)∧(AllS ut)∧(ut.length=gs.length)∧(Ab w)) (fun⟨i,gs,ut,w⟩=>cr.toNat - i) (0,fs,us,v) (⟨by omega,rfl,ha,hul,hv⟩) [] 0 ?_
 rintro⟨i,gs,ut,w⟩ ⟨hi,hg,hb,hut,hw⟩
 obtain⟨hkg,hgk,hgl,hxl,hxb,hal⟩:=(rtOk hty).inner hpre (by omega) hi hg
 refine Zs (Zs (Zr (Zm rfl (Zd (Qf Aq) rfl ?_))))
 refine Zd (Ql Ak 2) rfl ?_
 refine Zd Bb rfl ?_
 refine Zn (Zt ?_)
 refine GC.cond rfl (fun hc12=>?_) (fun hc12=>?_)
 replace hc12:=of_decide_eq_true hc12
 have hy:arI cr cd (i:Int) (gs.getD (k) [])=AK cr cd (fs.getD k []) i:=(rtOk hty).arI hgk hxl hxb (by omega)
 have hyl:(arI cr cd (i:Int) (gs.getD (k) [])).length=cr.toNat:=by rw[hy,D7,← hgk];exact hxl
 refine Zk (Zt (Zs (GC.block (Zs ?_))))
 refine Ya [(1,_),(5,_),(3,_),(6,_)] ?_
 refine Wp [Z0 37 (.agg #[J (cr),vcd]),Z0 38 (J ((i:Int))),Z0 39 w,Z0 40 (J ((k:Int))),Z1 41 [(2,39),(3,40)] (Aa w 1 (k)),Z1 42 [(4,41)] ((ut.getD (k) undef)),⟨43,[(0,37),(1,38),(5,42)],[],[],[6],fun ds=>((ds.getD 0 []).getD 0 undef),fun ds=>Ab ((ds.getD 0 []).getD 0 undef),fun ds=>[ints 3 ((ds.getD 0 []).getD 0 undef) (arI cr cd (i:Int) (gs.getD (k) []))]⟩] (Zc (fun _ _ _=>Zq (Qa An 2 [_,_]) rfl) (Yv (Yv (Yv (Zc (fun _ _ _=>Zq (Qi AM (Ent.lst (i:=1) rfl)) rfl) (Zc (fun _ _ _=>Zq (OD.loadElem rfl AH rfl (Ent.lst (i:=1) rfl) (by omega) rfl) rfl) (Zc (fun _ _ _=>AR.plain (OG.imp (Yc [.agg #[J (cr),vcd],J ((i:Int)),(ut.getD (k) undef)] eO (by exact(PM scd (Ent.drop 3 ecd.app) (hb.get (by omega)) (Ent.manyInts (i:=0) rfl ⟨by first | omega | (simp;omega),by first | omega | (simp;omega)⟩) (hcr) (hcd) (by omega) (by omega)))) (by rintro v13 _ ⟨_,rfl,hs14,rfl⟩;exact⟨[v13],rfl,hs14,rfl⟩)) rfl) As.nil))))))) ?_
 intro θ hall
 obtain⟨_,_,_,_,_,_,h6a,_⟩:=hall
 refine Yb [(1,_),(5,_),(3,_),(6,_),(43,((θ 6).getD 0 undef))] (ints 3 ((θ 6).getD 0 undef) (arI cr cd (i:Int) (gs.getD (k) []))::_::_) ?_
 have hs15:Ab ((θ 6).getD 0 undef):=h6a
 clear h6a
 generalize ((θ 6).getD 0 undef)=v16 at *
 show G _ _ _ [_] _ _ _ _
 refine Za rfl (Zn (Zt (Zs (Zr (Zm rfl (Yt (Yc [v16] Q0 (by exact(Dg hs15 (Ei 0) (by first | omega | (have:=hfl2 p (by omega);omega))))) ?_))))))
 rintro _ _ ⟨rfl,rfl⟩
 refine Zm rfl ?_
 rcases Bool.eq_false_or_eq_true (EJ (arI cr cd (i:Int) (gs.getD (k) []))) with hg17 | hg17
 have hg17e:=hg17
 rw[hg17e]
 refine Yd (OD.move rfl rfl) ?_
 refine Yd (OD.move rfl rfl) ?_
 refine Ye (Yc [w,v16] Hd (by exact(Cw hw (Ent.len (Ent.lst (i:=2) rfl) (by omega)) (fun k hk=>Ent.manyInts (i:=1) (k:=k) rfl ⟨by omega,hk⟩) (by omega) hb hs15 (Ei 0) (by omega) (fun j hj=>by have:=hal j hj;omega)))) ?_
 rintro _ _ ⟨rfl,rfl⟩
 refine Yd Bb ?_
 refine Zd (OD.pickT rfl rfl rfl) rfl ?_
 refine Zn (Zt ?_)
 refine GC.cond rfl (fun hc18=>?_) (fun hc18=>?_)
 replace hc18:=of_decide_eq_true hc18
 refine Zr (Zm rfl (Zm rfl (Yt (OG.buildLst (xs:=[.tmp 53]) (us:=[v16]) rfl AM rfl rfl rfl (Ad (Ab.one hs15) rfl) rfl) ?_)))
 rintro v19 _ ⟨hs20,rfl⟩
 refine Yt (OG.appendLst 3 rfl rfl AM rfl rfl rfl (Ent.lst (i:=0) rfl) (List.all_eq_true.2 fun u hu=>by simpa using(AllS.snoc AllS.nil hs15).one u hu) (by simp[maxLen] <;> omega)) ?_
 rintro v21 _ ⟨hs22,rfl⟩
 refine Za rfl (Zn (GE.blockN (Zt (Zr ?_))))
 refine Zm rfl (Zd Qp rfl ?_)
 refine Za rfl (Zn (Yr [1,1,0,0,0] (_::_::_::_::_::own) ?_))
 refine GE.manyPush (by omega) ?_
 exact Yg (i+1,gs++[arI cr cd (i:Int) (gs.getD (k) [])],ut++[v16],v21) (⟨by omega,Ar hg (rOne_yes hy hg17e hc18),(hb.snoc hs15),by rw[List.length_append,List.length_append];simp;omega,hs22⟩) [0,1,1] 1
 replace hc18:=of_decide_eq_false hc18
 refine Zk (GE.blockN (Zt (Zr ?_)))
 refine Zm rfl (Zd Qp rfl ?_)
 exact Za rfl (Zn (Yg (i+1,gs,ut,w) (⟨by omega,Ar hg (rOne_no2 hy hc18),hb,hut,hw⟩) [1,1,1] 1))
 have hg17e:=hg17
 rw[hg17e]
 iterate 4 refine Yk ?_
 refine Zd (OD.pickF rfl rfl rfl) rfl ?_
 refine Zn (Zt (GC.condF rfl (Zk (GE.blockN (Zt (Zr ?_))))))
 refine Zm rfl (Zd Qp rfl ?_)
 exact Za rfl (Zn (Yg (i+1,gs,ut,w) (⟨by omega,Ar hg (rOne_no1 hy hg17e),hb,hut,hw⟩) [1,1,1] 1))
 replace hc12:=of_decide_eq_false hc12
 refine GC.exit (Zp (Zp (GE.hit (GE.blockN (Zt (Zr ?_))))))
 refine Zm rfl (Zd Qp rfl ?_)
 exact Za rfl (Zn (Yg (g,k+1,gs,ut,w) (⟨by rw[hg,show i=cr.toNat by omega];exact hst,hb,hut,hw⟩) [] 0))
 replace hc11:=of_decide_eq_false hc11
 have hfe:=VD hf (by omega)
 refine GC.exit (Zp (Zp (GE.hit (Zt (Zs (Zr ?_))))))
 refine Yt (OG.buildLst (xs:=[]) (us:=[]) rfl AM rfl rfl rfl rfl rfl) ?_
 rintro v23 _ ⟨hs24,rfl⟩
 refine Za rfl (Zn (Zt (Zs (Zs (Zr (Za rfl (Zn (Zt (GC.block ?_)))))))))
 refine Yl (ι:=Nat × List (List Int) × List Value × Value) (fun⟨p,os,vs,z⟩=>[(3,v),(8,z),(9,J ((p:Int)))]) (fun⟨p,os,vs,z⟩=>lst 22 z vs::many (ints 3) us fs::lst 22 v us::box g1 27 [J (cr),vcd]::own) (fun⟨p,os,vs,z⟩=>(p≤fs.length)∧(os=(fs.take p).foldl Lf [])∧(AllS vs)∧(vs.length=os.length)∧(((us.zip fs).take p).Perm (vs.zip os))∧(Ab z)) (fun⟨p,os,vs,z⟩=>fs.length - p) (0,[],[],v23) (⟨by omega,rfl,AllS.nil,rfl,by simp,hs24⟩) [] 0 ?_
 rintro⟨p,os,vs,z⟩ ⟨hp,hos,hc,hvl,hpm,hz⟩
 have hol:os.length=p:=by rw[hos];exact Q5 p hp
 have hol2:∀ j,j<os.length→(os.getD j []).length=cr.toNat:=fun j hj=>by obtain⟨q,h1,h2⟩:=YK hvl hpm hj;rw[h2];exact((rtOk hty).fget (L:=fs) (by rw[hfe];exact Pre.refl _) h1).1
 have hfl2:∀ j,j<fs.length→(fs.getD j []).length=cr.toNat:=fun j hj=>((rtOk hty).fget (L:=fs) (by rw[hfe];exact Pre.refl _) hj).1
 refine Zs (Zs (Zr (Zm rfl (Zm rfl (Zd (Qn AM (Ent.lst (i:=2) rfl)) rfl ?_)))))
 refine Zd Bb rfl ?_
 refine Zn (Zt ?_)
 refine GC.cond rfl (fun hc25=>?_) (fun hc25=>?_)
 replace hc25:=of_decide_eq_true hc25
 refine Zk (Zt (Zs (GC.block (Zs (Zr ?_)))))
 refine Zm rfl (Zd (Qn AM (Ent.lst (i:=0) rfl)) rfl ?_)
 refine Za rfl (Zn (Zt (Zs (GC.block ?_))))
 refine Yl (ι:=Nat) (fun a=>[(3,v),(8,z),(9,J ((p:Int))),(10,J ((a:Int)))]) (fun a=>lst 22 z vs::many (ints 3) us fs::lst 22 v us::box g1 27 [J (cr),vcd]::own) (fun a=>(a≤os.length)∧(CT (fs.getD p []) os os.length=CT (fs.getD p []) os a)) (fun a=>a) vs.length (⟨by omega,by rw[hvl]⟩) [] 0 ?_
 rintro a ⟨haa,hA⟩
 refine Zs (Zs ?_)
 rcases Bool.eq_false_or_eq_true (decide (0<(a:Int))) with hg26 | hg26
 have hg26p:=hg26
 replace hg26p:=of_decide_eq_true hg26p
 refine Ya [(3,_),(8,_),(9,_),(10,_)] ?_
 refine Wp [Z0 65 (J ((a:Int))),Z1 66 [(0,65)] (.bool true),Z1 67 [(1,66)] (.bool true),Z1 68 [(2,67)] v,Z1 69 [(2,67)] (J ((p:Int))),Z1 70 [(2,67),(3,68),(4,69)] (Aa v 1 (p)),Z1 71 [(2,67),(5,70)] ((us.getD (p) undef)),Z1 72 [(2,67)] z,Z1 73 [(2,67)] (J ((a:Int))),Z1 74 [(2,67),(8,73)] (J ((a:Int) - 1)),Z1 75 [(2,67),(7,72),(9,74)] (Aa z 1 (((a:Int) - 1:Int).toNat)),Z1 76 [(2,67),(10,75)] ((vs.getD (((a:Int) - 1:Int).toNat) undef)),Z1 77 [(2,67),(6,71),(11,76)] (.bool (Sr (fs.getD (p) []) (os.getD (((a:Int) - 1:Int).toNat) []))),Z1 78 [(2,67),(12,77)] (.bool (Sr (fs.getD (p) []) (os.getD (((a:Int) - 1:Int).toNat) [])))] (Yv (Zc (fun _ _ _=>AR.plain (OG.imp (OD.gtr rfl rfl rfl) (by rintro _ _ ⟨rfl,rfl⟩;exact⟨[],congrArg Value.bool hg26,trivial,rfl⟩)) rfl) (Yv (Yw (Yw (Zc (fun _ _ _=>Zo (Qi AM (Ent.lst (i:=2) rfl)) rfl rfl rfl rfl trivial rfl) (Zc (fun _ _ _=>Zo (OD.loadElem rfl AH rfl (Ent.lst (i:=2) rfl) (by omega) rfl) rfl rfl rfl rfl trivial rfl) (Yw (Yw (Zc (fun _ _ _=>Zo Qs rfl rfl rfl rfl trivial rfl) (Zc (fun _ _ _=>Zo (Qi AM (Ent.lst (i:=0) rfl)) rfl rfl rfl rfl trivial rfl) (Zc (fun _ _ _=>Zo (OD.loadElem rfl AH rfl (Ent.lst (i:=0) rfl) (by omega) rfl) rfl rfl rfl rfl trivial rfl) (Zc (fun _ _ _=>Zo (Yc [(us.getD (p) undef),(vs.getD (((a:Int) - 1:Int).toNat) undef)] dE (by exact(TV (ha.get (by omega)) (Ent.manyInts (i:=1) rfl ⟨by first | omega | (simp;omega),by first | omega | (simp;omega)⟩) (hc.get (by omega)) (Ent.manyZip (i:=1) rfl (YR hpm) ⟨by omega,by omega⟩) (by first | omega | (have:=hfl2 p (by omega);omega)) (by have h1:=hfl2 p (by omega);have h2:=hol2 ((a:Int) - 1).toNat (by omega);omega)))) rfl rfl rfl rfl trivial rfl) (Zc (fun _ _ _=>Zq (OD.pickT rfl rfl rfl) rfl) As.nil)))))))))))))) ?_
 intro θ _
 refine Yb [(3,_),(8,_),(9,_),(10,_),(78,.bool (Sr (fs.getD (p) []) (os.getD (((a:Int) - 1:Int).toNat) [])))] (_::_) ?_
 show G _ _ _ [] _ _ _ _
 refine Zn (Zt ?_)
 refine GC.cond rfl (fun hc27=>?_) (fun hc27=>?_)
 refine Zk (Zt (GC.block (Zr ?_)))
 refine Zm rfl (Zd Qs rfl ?_)
 refine Za rfl (Zn (GE.blockN ?_))
 exact GE.again (a - 1) (⟨by omega,by rw[hA];exact Pj (by omega) (by have hq:=hc27;simpa using hq)⟩) (by first | omega | (dsimp only;omega)) ⟨rfl,rfl,rfl,int_eq (by omega),trivial⟩ [] 0 rfl
 refine GC.exit (Zp (Zp (GE.hit (Zt ?_))))
 refine Ya [(3,_),(8,_),(9,_),(10,_)] ?_
 refine Wp [⟨81,[],[],[],[0],fun ds=>((ds.getD 0 []).getD 0 undef),fun ds=>Ab ((ds.getD 0 []).getD 0 undef),fun ds=>[lst 22 ((ds.getD 0 []).getD 0 undef) []]⟩,Z0 82 z,Z0 83 (J ((a:Int))),Z1 84 [(1,82),(2,83)] ((Cc 1 z 0 a)),⟨85,[(0,81),(3,84)],[0],[0],[0,4],fun ds=>((ds.getD 1 []).getD 0 undef),fun ds=>Ab ((ds.getD 1 []).getD 0 undef),fun ds=>[lst 22 ((ds.getD 1 []).getD 0 undef) ([]++(vs.drop (0)).take (a - 0))]⟩,Z0 86 v,Z0 87 (J ((p:Int))),Z1 88 [(5,86),(6,87)] (Aa v 1 (p)),Z1 89 [(7,88)] ((us.getD (p) undef)),⟨90,[(8,89)],[],[],[9],fun ds=>((ds.getD 0 []).getD 0 undef),fun ds=>Ab ((ds.getD 0 []).getD 0 undef),fun ds=>[lst 22 ((ds.getD 0 []).getD 0 undef) [(us.getD (p) undef)]]⟩,⟨91,[(4,85),(9,90)],[4,9],[4],[0,4,9,10],fun ds=>((ds.getD 3 []).getD 0 undef),fun ds=>Ab ((ds.getD 3 []).getD 0 undef),fun ds=>[lst 22 ((ds.getD 3 []).getD 0 undef) (([]++(vs.drop (0)).take (a - 0))++[(us.getD (p) undef)])]⟩,Z0 92 z,Z0 93 (J ((a:Int))),Z1 94 [(11,92),(12,93)] ((Cc 1 z a vs.length)),⟨95,[(10,91),(13,94)],[10,9],[10],[0,4,9,10,14],fun ds=>((ds.getD 4 []).getD 0 undef),fun ds=>Ab ((ds.getD 4 []).getD 0 undef),fun ds=>[lst 22 ((ds.getD 4 []).getD 0 undef) ((([]++(vs.drop (0)).take (a - 0))++[(us.getD (p) undef)])++(vs.drop (a)).take (vs.length - a))]⟩] (Zc (fun _ _ _=>AR.plain (OG.imp (OG.buildLst (xs:=[]) (us:=[]) rfl AM rfl rfl rfl rfl rfl) (by rintro v28 _ ⟨hs29,rfl⟩;exact⟨[v28],rfl,hs29,rfl⟩)) rfl) (Yv (Yv (Zc (fun _ _ _=>Zq (OD.sliceTo rfl AM rfl rfl (Ent.lst (i:=0) rfl) (by omega)) rfl) (Zc (fun _ _ _=>AR.plain (OG.imp (OG.appendLst 0 rfl rfl AM rfl rfl rfl (Ent.subLst (Ent.lst (i:=1) rfl) (by simp;omega)) (List.all_eq_true.2 fun u hu=>by simpa using(AllS.part hc _ _).one u hu) (by simp[maxLen] <;> omega)) (by rintro v30 _ ⟨hs31,rfl⟩;exact⟨[v30],rfl,hs31,rfl⟩)) rfl) (Yv (Yv (Zc (fun _ _ _=>Zq (Qi AM (Ent.lst (i:=2) rfl)) rfl) (Zc (fun _ _ _=>Zq (OD.loadElem rfl AH rfl (Ent.lst (i:=2) rfl) (by omega) rfl) rfl) (Zc (fun _ _ _=>AR.plain (OG.imp (OG.buildLst (xs:=[.tmp 89]) (us:=[(us.getD (p) undef)]) rfl AM rfl rfl rfl (Ad (Ab.one (ha.get (by omega))) rfl) rfl) (by rintro v32 _ ⟨hs33,rfl⟩;exact⟨[v32],rfl,hs33,rfl⟩)) rfl) (Zc (fun _ _ _=>AR.plain (OG.imp (OG.appendLst 0 rfl rfl AM rfl rfl rfl (Ent.lst (i:=1) rfl) (List.all_eq_true.2 fun u hu=>by simpa using(AllS.snoc AllS.nil (ha.get (by omega))).one u hu) (by simp[maxLen] <;> omega)) (by rintro v34 _ ⟨hs35,rfl⟩;exact⟨[v34],rfl,hs35,rfl⟩)) rfl) (Yv (Yv (Zc (fun _ _ _=>Zq (OD.sliceFrom rfl AM rfl rfl (Ent.lst (i:=0) rfl) (by omega)) rfl) (Zc (fun _ _ _=>AR.plain (OG.imp (OG.appendLst 0 rfl rfl AM rfl rfl rfl (Ent.subLst (Ent.lst (i:=2) rfl) (by simp;omega)) (List.all_eq_true.2 fun u hu=>by simpa using(AllS.part hc _ _).one u hu) (by simp[maxLen] <;> omega)) (by rintro v36 _ ⟨hs37,rfl⟩;exact⟨[v36],rfl,hs37,rfl⟩)) rfl) As.nil))))))))))))))) ?_
 intro θ hall
 obtain⟨h0a,_,_,_,h4a,_,_,_,_,h9a,h10a,_,_,_,h14a,_⟩:=hall
 refine Yb [(3,_),(8,_),(9,_),(95,((θ 14).getD 0 undef))] (lst 22 ((θ 9).getD 0 undef) [(us.getD (p) undef)]::lst 22 ((θ 14).getD 0 undef) ((([]++(vs.drop (0)).take (a - 0))++[(us.getD (p) undef)])++(vs.drop (a)).take (vs.length - a))::_::_) ?_
 have hs38:Ab ((θ 0).getD 0 undef):=h0a
 clear h0a
 generalize ((θ 0).getD 0 undef)=v39 at *
 have hs40:Ab ((θ 4).getD 0 undef):=h4a
 clear h4a
 generalize ((θ 4).getD 0 undef)=v41 at *
 have hs42:Ab ((θ 9).getD 0 undef):=h9a
 clear h9a
 generalize ((θ 9).getD 0 undef)=v43 at *
 have hs44:Ab ((θ 10).getD 0 undef):=h10a
 clear h10a
 generalize ((θ 10).getD 0 undef)=v45 at *
 have hs46:Ab ((θ 14).getD 0 undef):=h14a
 clear h14a
 generalize ((θ 14).getD 0 undef)=v47 at *
 show G _ _ _ [_] _ _ _ _
 refine Za rfl (Zn (GE.blockN (Zt (Zr ?_))))
 refine Zm rfl (Zd Qp rfl ?_)
 refine Za rfl (Zn ?_)
 have hcn:AllS (vs.take a++[us.getD p undef]++vs.drop a):=AllS.app (AllS.app (fun u hu=>hc u (List.mem_of_mem_take hu)) (AllS.snoc AllS.nil (ha.get (by omega)))) fun u hu=>hc u (List.mem_of_mem_drop hu)
 refine GE.ownEq (own':=lst 22 v43 [(us.getD (p) undef)]::lst 22 v47 (vs.take a++[us.getD p undef]++vs.drop a)::lst 22 z vs::many (ints 3) us fs::lst 22 v us::box g1 27 [J (cr),vcd]::own) (by simp[List.take_of_length_le]) ?_
 exact Yg (p+1,os.take a++[fs.getD p []]++os.drop a,vs.take a++[us.getD p undef]++vs.drop a,v47) (⟨by omega,NB (by omega) hos (by rw[hA];exact rInsAt_no (by omega) (by have hq:=hc27;simpa using hq)),hcn,by simp;omega,OA hul (by omega) hvl hpm (by omega),hs46⟩) [1,2,2,2] 2
 have hg26p:=hg26
 replace hg26p:=of_decide_eq_false hg26p
 refine Ya [(3,_),(8,_),(9,_),(10,_)] ?_
 refine Wp [Z0 65 (J ((a:Int))),Z1 66 [(0,65)] (.bool false),Z1 67 [(1,66)] (.bool false),Z1 68 [(2,67)] undef,Z1 69 [(2,67)] undef,Z1 70 [(2,67),(3,68),(4,69)] undef,Z1 71 [(2,67),(5,70)] undef,Z1 72 [(2,67)] undef,Z1 73 [(2,67)] undef,Z1 74 [(2,67),(8,73)] undef,Z1 75 [(2,67),(7,72),(9,74)] undef,Z1 76 [(2,67),(10,75)] undef,Z1 77 [(2,67),(6,71),(11,76)] undef,Z1 78 [(2,67),(12,77)] (.bool false)] (Yv (Zc (fun _ _ _=>AR.plain (OG.imp (OD.gtr rfl rfl rfl) (by rintro _ _ ⟨rfl,rfl⟩;exact⟨[],congrArg Value.bool hg26,trivial,rfl⟩)) rfl) (Yv (Yo (Yo (Yo (Yo (Yo (Yo (Yo (Yo (Yo (Yo (Zc (fun _ _ _=>Zq (OD.pickF rfl rfl rfl) rfl) As.nil)))))))))))))) ?_
 intro θ _
 refine Yb [(3,_),(8,_),(9,_),(10,_),(78,.bool false)] (_::_) ?_
 show G _ _ _ [] _ _ _ _
 refine Zn (Zt (GC.condF rfl (GC.exit (Zp (Zp (GE.hit (Zt ?_)))))))
 refine Ya [(3,_),(8,_),(9,_),(10,_)] ?_
 refine Wp [⟨81,[],[],[],[0],fun ds=>((ds.getD 0 []).getD 0 undef),fun ds=>Ab ((ds.getD 0 []).getD 0 undef),fun ds=>[lst 22 ((ds.getD 0 []).getD 0 undef) []]⟩,Z0 82 z,Z0 83 (J ((a:Int))),Z1 84 [(1,82),(2,83)] ((Cc 1 z 0 a)),⟨85,[(0,81),(3,84)],[0],[0],[0,4],fun ds=>((ds.getD 1 []).getD 0 undef),fun ds=>Ab ((ds.getD 1 []).getD 0 undef),fun ds=>[lst 22 ((ds.getD 1 []).getD 0 undef) ([]++(vs.drop (0)).take (a - 0))]⟩,Z0 86 v,Z0 87 (J ((p:Int))),Z1 88 [(5,86),(6,87)] (Aa v 1 (p)),Z1 89 [(7,88)] ((us.getD (p) undef)),⟨90,[(8,89)],[],[],[9],fun ds=>((ds.getD 0 []).getD 0 undef),fun ds=>Ab ((ds.getD 0 []).getD 0 undef),fun ds=>[lst 22 ((ds.getD 0 []).getD 0 undef) [(us.getD (p) undef)]]⟩,⟨91,[(4,85),(9,90)],[4,9],[4],[0,4,9,10],fun ds=>((ds.getD 3 []).getD 0 undef),fun ds=>Ab ((ds.getD 3 []).getD 0 undef),fun ds=>[lst 22 ((ds.getD 3 []).getD 0 undef) (([]++(vs.drop (0)).take (a - 0))++[(us.getD (p) undef)])]⟩,Z0 92 z,Z0 93 (J ((a:Int))),Z1 94 [(11,92),(12,93)] ((Cc 1 z a vs.length)),⟨95,[(10,91),(13,94)],[10,9],[10],[0,4,9,10,14],fun ds=>((ds.getD 4 []).getD 0 undef),fun ds=>Ab ((ds.getD 4 []).getD 0 undef),fun ds=>[lst 22 ((ds.getD 4 []).getD 0 undef) ((([]++(vs.drop (0)).take (a - 0))++[(us.getD (p) undef)])++(vs.drop (a)).take (vs.length - a))]⟩] (Zc (fun _ _ _=>AR.plain (OG.imp (OG.buildLst (xs:=[]) (us:=[]) rfl AM rfl rfl rfl rfl rfl) (by rintro v48 _ ⟨hs49,rfl⟩;exact⟨[v48],rfl,hs49,rfl⟩)) rfl) (Yv (Yv (Zc (fun _ _ _=>Zq (OD.sliceTo rfl AM rfl rfl (Ent.lst (i:=0) rfl) (by omega)) rfl) (Zc (fun _ _ _=>AR.plain (OG.imp (OG.appendLst 0 rfl rfl AM rfl rfl rfl (Ent.subLst (Ent.lst (i:=1) rfl) (by simp;omega)) (List.all_eq_true.2 fun u hu=>by simpa using(AllS.part hc _ _).one u hu) (by simp[maxLen] <;> omega)) (by rintro v50 _ ⟨hs51,rfl⟩;exact⟨[v50],rfl,hs51,rfl⟩)) rfl) (Yv (Yv (Zc (fun _ _ _=>Zq (Qi AM (Ent.lst (i:=2) rfl)) rfl) (Zc (fun _ _ _=>Zq (OD.loadElem rfl AH rfl (Ent.lst (i:=2) rfl) (by omega) rfl) rfl) (Zc (fun _ _ _=>AR.plain (OG.imp (OG.buildLst (xs:=[.tmp 89]) (us:=[(us.getD (p) undef)]) rfl AM rfl rfl rfl (Ad (Ab.one (ha.get (by omega))) rfl) rfl) (by rintro v52 _ ⟨hs53,rfl⟩;exact⟨[v52],rfl,hs53,rfl⟩)) rfl) (Zc (fun _ _ _=>AR.plain (OG.imp (OG.appendLst 0 rfl rfl AM rfl rfl rfl (Ent.lst (i:=1) rfl) (List.all_eq_true.2 fun u hu=>by simpa using(AllS.snoc AllS.nil (ha.get (by omega))).one u hu) (by simp[maxLen] <;> omega)) (by rintro v54 _ ⟨hs55,rfl⟩;exact⟨[v54],rfl,hs55,rfl⟩)) rfl) (Yv (Yv (Zc (fun _ _ _=>Zq (OD.sliceFrom rfl AM rfl rfl (Ent.lst (i:=0) rfl) (by omega)) rfl) (Zc (fun _ _ _=>AR.plain (OG.imp (OG.appendLst 0 rfl rfl AM rfl rfl rfl (Ent.subLst (Ent.lst (i:=2) rfl) (by simp;omega)) (List.all_eq_true.2 fun u hu=>by simpa using(AllS.part hc _ _).one u hu) (by simp[maxLen] <;> omega)) (by rintro v56 _ ⟨hs57,rfl⟩;exact⟨[v56],rfl,hs57,rfl⟩)) rfl) As.nil))))))))))))))) ?_
 intro θ hall
 obtain⟨h0a,_,_,_,h4a,_,_,_,_,h9a,h10a,_,_,_,h14a,_⟩:=hall
 refine Yb [(3,_),(8,_),(9,_),(95,((θ 14).getD 0 undef))] (lst 22 ((θ 9).getD 0 undef) [(us.getD (p) undef)]::lst 22 ((θ 14).getD 0 undef) ((([]++(vs.drop (0)).take (a - 0))++[(us.getD (p) undef)])++(vs.drop (a)).take (vs.length - a))::_::_) ?_
 have hs58:Ab ((θ 0).getD 0 undef):=h0a
 clear h0a
 generalize ((θ 0).getD 0 undef)=v59 at *
 have hs60:Ab ((θ 4).getD 0 undef):=h4a
 clear h4a
 generalize ((θ 4).getD 0 undef)=v61 at *
 have hs62:Ab ((θ 9).getD 0 undef):=h9a
 clear h9a
 generalize ((θ 9).getD 0 undef)=v63 at *
 have hs64:Ab ((θ 10).getD 0 undef):=h10a
 clear h10a
 generalize ((θ 10).getD 0 undef)=v65 at *
 have hs66:Ab ((θ 14).getD 0 undef):=h14a
 clear h14a
 generalize ((θ 14).getD 0 undef)=v67 at *
 show G _ _ _ [_] _ _ _ _
 refine Za rfl (Zn (GE.blockN (Zt (Zr ?_))))
 refine Zm rfl (Zd Qp rfl ?_)
 refine Za rfl (Zn ?_)
 have hcn:AllS (vs.take a++[us.getD p undef]++vs.drop a):=AllS.app (AllS.app (fun u hu=>hc u (List.mem_of_mem_take hu)) (AllS.snoc AllS.nil (ha.get (by omega)))) fun u hu=>hc u (List.mem_of_mem_drop hu)
 refine GE.ownEq (own':=lst 22 v63 [(us.getD (p) undef)]::lst 22 v67 (vs.take a++[us.getD p undef]++vs.drop a)::lst 22 z vs::many (ints 3) us fs::lst 22 v us::box g1 27 [J (cr),vcd]::own) (by simp[List.take_of_length_le]) ?_
 exact Yg (p+1,os.take a++[fs.getD p []]++os.drop a,vs.take a++[us.getD p undef]++vs.drop a,v67) (⟨by omega,NB (by omega) hos (by rw[hA,show a=0 by omega];rfl),hcn,by simp;omega,OA hul (by omega) hvl hpm (by omega),hs66⟩) [1,2,2,2] 2
 replace hc25:=of_decide_eq_false hc25
 refine GC.exit (Zp (Zp (GE.hit (Zt (Zs (Zr ?_))))))
 refine Zm rfl (Za rfl (Zn (Zt (GC.ret ?_))))
 refine Yr [1,0,0,0] (_::_::_::_::own) ?_
 refine GE.manyPerm (us:=vs) (ys:=os) (X5 hul (by omega) hpm) ?_
 skip
 exact GE.body [1,0] 2 (Ao rfl rfl) rfl (⟨z,vs,rfl,hz,hc,(by rw[hvl,Ru hfe hos (by omega)]),congrArg (fun l0=>lst 22 z vs::many (ints 3) vs l0::own) ((Ru hfe hos (by omega):os=rSt cr cd))⟩)
end Go.Proofs.YtbmnnbglipkidaaGreatDoor
