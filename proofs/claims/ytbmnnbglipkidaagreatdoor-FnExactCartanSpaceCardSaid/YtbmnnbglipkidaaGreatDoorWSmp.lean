/-
  Tables of simple algebras by the first text: contracts by walks.
-/
import Derived.Test.YtbmnnbglipkidaaGreatDoorFct
import Derived.Test.YtbmnnbglipkidaaGreatDoorWCns
import Derived.Test.YtbmnnbglipkidaaGreatDoorZ25
import Derived.Test.YtbmnnbglipkidaaGreatDoorWCor
namespace Go.Proofs.YtbmnnbglipkidaaGreatDoor
set_option maxRecDepth 100000
set_option maxHeartbeats 4000000
set_option linter.unusedVariables false
set_option linter.unusedSimpArgs false
open Go.RowKit
theorem ent61:∀ us w,(callFunc 61 us).run Tryz.prog w = .ok (.enter 61 us) w:=fun us w=>by kernel_rfl
theorem ent62:∀ us w,(callFunc 62 us).run Tryz.prog w = .ok (.enter 62 us) w:=fun us w=>by kernel_rfl
theorem ent63:∀ us w,(callFunc 63 us).run Tryz.prog w = .ok (.enter 63 us) w:=fun us w=>by kernel_rfl
theorem ent64:∀ us w,(callFunc 64 us).run Tryz.prog w = .ok (.enter 64 us) w:=fun us w=>by kernel_rfl
theorem ent65:∀ us w,(callFunc 65 us).run Tryz.prog w = .ok (.enter 65 us) w:=fun us w=>by kernel_rfl
theorem ent67:∀ us w,(callFunc 67 us).run Tryz.prog w = .ok (.enter 67 us) w:=fun us w=>by kernel_rfl
theorem ent69:∀ us w,(callFunc 69 us).run Tryz.prog w = .ok (.enter 69 us) w:=fun us w=>by kernel_rfl
theorem ent70:∀ us w,(callFunc 70 us).run Tryz.prog w = .ok (.enter 70 us) w:=fun us w=>by kernel_rfl
theorem isZero_s {W:World}{own:List Asn}{vx:Value}{x:List Int}(sx:IsS vx)(ex:Ent own fun w=>Ints w vx x):Spec Tryz.prog 67 [vx] W own (fun v ow=>v = .bool (zeroB x)∧ow=own):=Spec.drewN fun w hs=>isZero_any _ _ w (ex W w hs)
theorem elem_w {W:World}{own:List Asn}{cr:Int}{vcd:Value}{cd:List Int}{vL:Value}{uL:List Value}{gmp:Nat}{i:Nat}(scd:IsS vcd)(ecd:Ent own fun w=>Ints w vcd cd)(sL:IsS vL)(eL:Ent own fun w=>Sl w vL (rSt cr cd).length 1 uL)(mL:∀ k,k<(rSt cr cd).length→Ent own fun w=>Ints w (uL.getD k undef) ((rSt cr cd).getD k []))(lL:uL.length=(rSt cr cd).length)(aL:AllS uL)(hmp:Ent own (MapIs keyL valI gmp (rKvs cr cd)))(hS:(tyS cr cd).isSome=true)(hi:i<smN cr cd):Spec Tryz.prog 64 [.agg #[.int .i64 (cr),vcd,vL,.map (some gmp)],.int .i64 ((i:Int))] W own (fun v ow=>∃ (v0:Value),v=v0∧IsS v0∧(isNilV v0=smH cr cd i)∧(i<smM cr cd→v0=uL.getD i undef)∧ow=opA (decide (smM cr cd+cr.toNat≤i)) (ints 3 v0 (smR cr cd i))::own):=by
 have hcr:=(tyS_ok hS).1
 have hcd:=(tyS_ok hS).2
 have hMl:smM cr cd=(rSt cr cd).length:=rfl
 have hNl:smN cr cd=2*smM cr cd+cr.toNat:=rfl
 have hr4:=(rtOk hS).rk
 have hlo:=(rtOk hS).lo
 have hRf:(rSt cr cd).length≤30:=by have h1:=(rtOk hS).slen;have h2:=(rtOk hS).few;omega
 refine Spec.enter Tryz.f64 _ Tryz.func64 rfl (n:=38) rfl rfl ?_
 refine Zs (Zr (G.step (OG.box (cs:=[.int .i64 (cr),vcd,vL,.map (some gmp)]) rfl rfl rfl) rfl rfl rfl ?_))
 rintro _ _ ⟨g1,rfl,rfl⟩
 refine Za rfl (Zn (Zt (Zs (Zr (Zd (OD.fieldAddr rfl rfl fa64_1) rfl ?_)))))
 refine Zd (OD.load rfl ti60 rfl (i:=0) rfl rfl) rfl ?_
 refine Zd (OD.len rfl rfl et60 rfl (Ent.drop 1 eL)) rfl ?_
 refine Za rfl (Zn (Zt (Zs (GC.block (Zs (Zr ?_))))))
 refine Zm rfl (Zm rfl (Zd (OD.lss rfl rfl rfl) rfl ?_))
 refine Za rfl (Zn (Zt ?_))
 refine GC.cond rfl (fun hc2=>?_) (fun hc2=>?_)
 replace hc2:=of_decide_eq_true hc2
 refine Zs (Zr (Zd (OD.fieldAddr rfl rfl fa64_1) rfl ?_))
 refine Zd (OD.load rfl ti60 rfl (i:=0) rfl rfl) rfl ?_
 refine Zm rfl (Zd (OD.indexAddr rfl et60 rfl (Ent.drop 1 eL) rfl (by omega)) rfl ?_)
 refine Zd (OD.loadElem rfl ti22 rfl (Ent.drop 1 eL) (by omega) rfl) rfl ?_
 refine Za rfl (Zn (Zt (GC.ret (GE.blockR (GE.passR ?_)))))
 refine GE.fact (not_nil (Ent.drop 1 (mL (i) (by omega))) (by have:=(root_get hS (getR_mem (show i<(rSt cr cd).length by omega))).1;omega)) fun hnl=>?_
 refine GE.opNo (b:=decide (smM cr cd+cr.toNat≤i)) (A:=ints 3 (uL.getD (i) undef) (smR cr cd i)) (decide_eq_false (by omega)) ?_
 skip
 exact GE.body [0] 1 (res1 rfl rfl) rfl (⟨(uL.getD (i) undef),rfl,((aL.get (by omega))),(hnl.trans (smH_1 (by omega)).symm),(fun _=>rfl),rfl⟩)
 replace hc2:=of_decide_eq_false hc2
 refine Zs (Zr (Zm rfl (Zm rfl (Zd (OD.fieldAddr rfl rfl fa64_0) rfl ?_))))
 refine Zd (OD.fieldAddr rfl rfl fa27_0) rfl ?_
 refine Zd (OD.load rfl ti3 rfl (i:=0) rfl rfl) rfl ?_
 refine Zd (OD.addI rfl rfl rfl (by omega)) rfl ?_
 refine Zd (OD.lss rfl rfl rfl) rfl ?_
 refine Za rfl (Zn (Zt ?_))
 refine GC.cond rfl (fun hc3=>?_) (fun hc3=>?_)
 replace hc3:=of_decide_eq_true hc3
 refine Zs (Zr (Za rfl (Zn (Zt (GC.ret (GE.blockR (GE.passR ?_)))))))
 refine GE.opNo (b:=decide (smM cr cd+cr.toNat≤i)) (A:=ints 3 (.slice none 0 0) (smR cr cd i)) (decide_eq_false (by omega)) ?_
 skip
 exact GE.body [0] 1 (res1 rfl rfl) rfl (⟨(.slice none 0 0),rfl,(IsS.nil),((smH_2 (by omega) (by omega)).symm),(fun h=>absurd h (by omega)),rfl⟩)
 replace hc3:=of_decide_eq_false hc3
 refine Zk (GE.blockN (Zt (Zs (Zr ?_))))
 refine Zd (OD.fieldAddr rfl rfl fa64_1) rfl ?_
 refine Zd (OD.load rfl ti60 rfl (i:=0) rfl rfl) rfl ?_
 refine Zm rfl (Zm rfl (Zd (OD.subI rfl rfl rfl (by omega)) rfl ?_))
 refine Zd (OD.fieldAddr rfl rfl fa64_0) rfl ?_
 refine Zd (OD.fieldAddr rfl rfl fa27_0) rfl ?_
 refine Zd (OD.load rfl ti3 rfl (i:=0) rfl rfl) rfl ?_
 refine Zd (OD.subI rfl rfl rfl (by omega)) rfl ?_
 refine Zd (OD.indexAddr rfl et60 rfl (Ent.drop 1 eL) rfl (by omega)) rfl ?_
 refine Zd (OD.loadElem rfl ti22 rfl (Ent.drop 1 eL) (by omega) rfl) rfl ?_
 refine G.step (OG.call [.int .i64 (-1),(uL.getD ((((i:Int) - ((rSt cr cd).length:Nat)) - cr:Int).toNat) undef)] ent54 rfl rfl rfl rfl (by exact(listTimes_w (aL.get (by omega)) (Ent.drop 1 (mL ((((i:Int) - ((rSt cr cd).length:Nat)) - cr:Int).toNat) (by omega))) (by have:=(root_get hS (getR_mem (show (((i:Int) - (((rSt cr cd).length:Nat))) - cr:Int).toNat<(rSt cr cd).length by omega))).1;omega)))) rfl rfl rfl ?_
 rintro v4 _ ⟨_,rfl,hs5,rfl⟩
 refine Za rfl (Zn (Zt (GC.ret ?_)))
 refine GE.ownEq (own':=ints 3 v4 (smR cr cd i)::box g1 64 [.int .i64 (cr),vcd,vL,.map (some gmp)]::own) (by rw[smR_3 (by omega),← el_3 hS (by omega) (by omega) (q:=(((i:Int) - ((rSt cr cd).length:Nat)) - cr:Int).toNat) (by omega)] <;> rfl) ?_
 refine GE.fact (not_nil (Ent.ints (i:=0) rfl) (by have:=(rt_tens hS (smR_rt hS (i:=i) (by omega) (smH_3 (by omega)))).1;omega)) fun hnl=>?_
 refine GE.at [0,0] 0 (env':=[(0,.agg #[.int .i64 (cr),vcd,vL,.map (some gmp)]),(1,.int .i64 ((i:Int))),(2,.pointer (some ⟨g1,0,none⟩)),(6,.pointer (some ⟨g1,2,none⟩)),(7,vL),(8,.int .i64 (((rSt cr cd).length:Nat))),(5,.int .i64 (((rSt cr cd).length:Nat))),(10,.int .i64 ((i:Int))),(11,.int .i64 (((rSt cr cd).length:Nat))),(12,.bool (decide ((i:Int)<((rSt cr cd).length:Nat)))),(9,.bool (decide ((i:Int)<((rSt cr cd).length:Nat)))),(19,.int .i64 ((i:Int))),(20,.int .i64 (((rSt cr cd).length:Nat))),(21,.pointer (some ⟨g1,0,none⟩)),(22,.pointer (some ⟨g1,0,none⟩)),(23,.int .i64 (cr)),(24,.int .i64 (((rSt cr cd).length:Nat)+cr)),(25,.bool (decide ((i:Int)<((rSt cr cd).length:Nat)+cr))),(18,.bool (decide ((i:Int)<((rSt cr cd).length:Nat)+cr))),(26,.pointer (some ⟨g1,2,none⟩)),(27,vL),(28,.int .i64 ((i:Int))),(29,.int .i64 (((rSt cr cd).length:Nat))),(30,.int .i64 ((i:Int) - ((rSt cr cd).length:Nat))),(31,.pointer (some ⟨g1,0,none⟩)),(32,.pointer (some ⟨g1,0,none⟩)),(33,.int .i64 (cr)),(34,.int .i64 (((i:Int) - ((rSt cr cd).length:Nat)) - cr)),(35,elemPtr vL 1 ((((i:Int) - ((rSt cr cd).length:Nat)) - cr:Int).toNat)),(36,(uL.getD ((((i:Int) - ((rSt cr cd).length:Nat)) - cr:Int).toNat) undef)),(37,v4),(4,v4)]) ⟨rfl,rfl,rfl,rfl,rfl,rfl,rfl,rfl,rfl,rfl,rfl,rfl,rfl,rfl,rfl,rfl,rfl,rfl,rfl,rfl,rfl,rfl,rfl,rfl,rfl,rfl,rfl,rfl,rfl,rfl,rfl,rfl,trivial⟩ (own':=ints 3 v4 (smR cr cd i)::box g1 64 [.int .i64 (cr),vcd,vL,.map (some gmp)]::own) rfl ?_
 refine GE.opYes (b:=decide (smM cr cd+cr.toNat≤i)) (decide_eq_true (by omega)) ?_
 skip
 exact GE.body [0] 1 (res1 rfl rfl) rfl (⟨v4,rfl,(hs5),(hnl.trans (smH_3 (by omega)).symm),(fun h=>absurd h (by omega)),rfl⟩)
theorem row_w {W:World}{own:List Asn}{i:Nat}{j:Nat}{gn gr gc gh gp gs gk:Nat}{nn hh p cr:Int}{vcd:Value}{cd:List Int}{vL:Value}{uL:List Value}{gmp:Nat}{vLz:Value}{uLz:List Value}{gmq:Nat}{gqp:Nat}(scd:IsS vcd)(ecd:Ent own fun w=>Ints w vcd cd)(sL:IsS vL)(eL:Ent own fun w=>Sl w vL (rSt cr cd).length 1 uL)(mL:∀ k,k<(rSt cr cd).length→Ent own fun w=>Ints w (uL.getD k undef) ((rSt cr cd).getD k []))(lL:uL.length=(rSt cr cd).length)(aL:AllS uL)(hmp:Ent own (MapIs keyL valI gmp (rKvs cr cd)))(sLz:IsS vLz)(eLz:Ent own fun w=>Sl w vLz (rSt cr cd).length 1 uLz)(mLz:∀ k,k<(rSt cr cd).length→Ent own fun w=>Ints w (uLz.getD k undef) ((rSt cr cd).getD k []))(lLz:uLz.length=(rSt cr cd).length)(aLz:AllS uLz)(hmq:Ent own (MapIs keyL valI gmq (rKvs cr cd)))(hqp:Ent own (MapIs keyL valI gqp (hfK cr cd)))(hS:(tyS cr cd).isSome=true)(hN:nn=(smN cr cd:Nat))(hH:hh=(smM cr cd:Nat))(h28:smN cr cd≤28)(hpp:1≤p∧p≤1000000)(htab:Ent own Pow10)(hi:i<smN cr cd)(hj:j<smN cr cd):Spec Tryz.prog 63 [.int .i64 ((i:Int)),.int .i64 ((j:Int)),.pointer (some ⟨gn,0,none⟩),.pointer (some ⟨gr,0,none⟩),.pointer (some ⟨gc,0,none⟩),.pointer (some ⟨gh,0,none⟩),.pointer (some ⟨gp,0,none⟩),.pointer (some ⟨gs,0,none⟩)] W (box gn 3 [.int .i64 (nn)]::box gr 64 [.int .i64 (cr),vcd,vL,.map (some gmp)]::box gc 27 [.int .i64 (cr),vcd]::box gh 3 [.int .i64 (hh)]::box gp 3 [.int .i64 (p)]::box gs 66 [.int .i64 (cr),vcd,vLz,.map (some gmq),.map (some gqp),.map (some gk)]::memA gk cr cd::own) (fun v ow=>∃ (r0:Value),v=r0∧IsS r0∧ow=ints 3 r0 (rwF cr cd p i j)::box gn 3 [.int .i64 (nn)]::box gr 64 [.int .i64 (cr),vcd,vL,.map (some gmp)]::box gc 27 [.int .i64 (cr),vcd]::box gh 3 [.int .i64 (hh)]::box gp 3 [.int .i64 (p)]::box gs 66 [.int .i64 (cr),vcd,vLz,.map (some gmq),.map (some gqp),.map (some gk)]::memA gk cr cd::own):=by
 have hcr:=(tyS_ok hS).1
 have hcd:=(tyS_ok hS).2
 have hMl:smM cr cd=(rSt cr cd).length:=rfl
 have hNl:smN cr cd=2*smM cr cd+cr.toNat:=rfl
 have hr4:=(rtOk hS).rk
 have hlo:=(rtOk hS).lo
 have hRf:(rSt cr cd).length≤30:=by have h1:=(rtOk hS).slen;have h2:=(rtOk hS).few;omega
 have hc0:=fun k=>coR_len (n:=cr) (d:=cd) (p:=p) (i:=i) k
 refine Spec.enter Tryz.f63 _ Tryz.func63 rfl (n:=107) rfl rfl ?_
 refine Zs (Zr (Za rfl (Zn (Zt (Zs (Zr (Zd (OD.load rfl ti3 rfl (i:=0) rfl rfl) rfl ?_)))))))
 refine G.step (OG.makeInts rfl et22 rfl rfl (by omega)) rfl rfl rfl ?_
 rintro v1 _ ⟨hs2,rfl⟩
 refine Za rfl (Zn (Zt (Zs (GC.ownEq (own':=ints 3 v1 (List.replicate (smN cr cd) 0)::box gn 3 [.int .i64 (nn)]::box gr 64 [.int .i64 (cr),vcd,vL,.map (some gmp)]::box gc 27 [.int .i64 (cr),vcd]::box gh 3 [.int .i64 (hh)]::box gp 3 [.int .i64 (p)]::box gs 66 [.int .i64 (cr),vcd,vLz,.map (some gmq),.map (some gqp),.map (some gk)]::memA gk cr cd::own) (by rw[hN] <;> rfl) ?_))))
 refine GC.at [] 0 (env':=[(0,.int .i64 ((i:Int))),(1,.int .i64 ((j:Int))),(3,.pointer (some ⟨gr,0,none⟩)),(4,.pointer (some ⟨gc,0,none⟩)),(5,.pointer (some ⟨gh,0,none⟩)),(6,.pointer (some ⟨gp,0,none⟩)),(7,.pointer (some ⟨gs,0,none⟩)),(11,v1)]) ⟨rfl,rfl,rfl,rfl,rfl,rfl,rfl,rfl,trivial⟩ rfl ?_
 refine GC.par (its:=[Z0 18 (.agg #[.int .i64 (cr),vcd,vL,.map (some gmp)]),
     Z0 19 (.int .i64 ((i:Int))),
     ⟨20,[(0,18),(1,19)],[],[],[2],fun ds=>((ds.getD 0 []).getD 0 undef),fun ds=>IsS ((ds.getD 0 []).getD 0 undef)∧(isNilV ((ds.getD 0 []).getD 0 undef)=smH cr cd i)∧(i<smM cr cd→((ds.getD 0 []).getD 0 undef)=uL.getD i undef),fun ds=>[opA (decide (smM cr cd+cr.toNat≤i)) (ints 3 ((ds.getD 0 []).getD 0 undef) (smR cr cd i))]⟩,
     Z0 21 (.agg #[.int .i64 (cr),vcd,vL,.map (some gmp)]),
     Z0 22 (.int .i64 ((j:Int))),
     ⟨23,[(3,21),(4,22)],[],[],[5],fun ds=>((ds.getD 0 []).getD 0 undef),fun ds=>IsS ((ds.getD 0 []).getD 0 undef)∧(isNilV ((ds.getD 0 []).getD 0 undef)=smH cr cd j)∧(j<smM cr cd→((ds.getD 0 []).getD 0 undef)=uL.getD j undef),fun ds=>[opA (decide (smM cr cd+cr.toNat≤j)) (ints 3 ((ds.getD 0 []).getD 0 undef) (smR cr cd j))]⟩]) (by kernel_rfl) (by kernel_rfl) (Zc ?_ (Zc ?_ (Zc ?_ (Zc ?_ (Zc ?_ (Zc ?_ POps.nil)))))) ?_
 exact fun θ R hd=>Zq (OD.loadAgg rfl ti64 rfl (i:=2) rfl (us:=[.int .i64 (cr),vcd,vL,.map (some gmp)]) rfl rfl) rfl
 exact fun θ R hd=>Zq (OD.move rfl rfl) rfl
 exact fun θ R ⟨h0d,h1d,_⟩=>Opp.plain (OG.imp (OG.call [.agg #[.int .i64 (cr),vcd,vL,.map (some gmp)],.int .i64 ((i:Int))] ent64 rfl rfl rfl rfl (by exact(elem_w scd (Ent.drop 8 ecd.app) sL (Ent.drop 8 eL.app) (fun k hk=>(Ent.drop 8 ((mL k hk).app))) lL aL (Ent.drop 8 hmp.app) (hS) (by omega)))) (by rintro v3 _ ⟨_,rfl,hs4,hs5,hs6,rfl⟩;exact⟨[v3],rfl,⟨hs4,hs5,hs6⟩,rfl⟩)) rfl
 exact fun θ R hd=>Zq (OD.loadAgg rfl ti64 rfl (i:=2) rfl (us:=[.int .i64 (cr),vcd,vL,.map (some gmp)]) rfl rfl) rfl
 exact fun θ R hd=>Zq (OD.move rfl rfl) rfl
 exact fun θ R ⟨h3d,h4d,_⟩=>Opp.plain (OG.imp (OG.call [.agg #[.int .i64 (cr),vcd,vL,.map (some gmp)],.int .i64 ((j:Int))] ent64 rfl rfl rfl rfl (by exact(elem_w scd (Ent.drop 8 ecd.app) sL (Ent.drop 8 eL.app) (fun k hk=>(Ent.drop 8 ((mL k hk).app))) lL aL (Ent.drop 8 hmp.app) (hS) (by omega)))) (by rintro v7 _ ⟨_,rfl,hs8,hs9,hs10,rfl⟩;exact⟨[v7],rfl,⟨hs8,hs9,hs10⟩,rfl⟩)) rfl
 intro θ hall
 obtain⟨_,_,h2a,_,_,h5a,_⟩:=hall
 refine G.at [] 0 (env':=[(0,.int .i64 ((i:Int))),(1,.int .i64 ((j:Int))),(3,.pointer (some ⟨gr,0,none⟩)),(4,.pointer (some ⟨gc,0,none⟩)),(5,.pointer (some ⟨gh,0,none⟩)),(6,.pointer (some ⟨gp,0,none⟩)),(7,.pointer (some ⟨gs,0,none⟩)),(11,v1),(20,((θ 2).getD 0 undef)),(23,((θ 5).getD 0 undef))]) ⟨rfl,rfl,rfl,rfl,rfl,rfl,rfl,rfl,rfl,rfl,trivial⟩ (own':=opA (decide (smM cr cd+cr.toNat≤i)) (ints 3 ((θ 2).getD 0 undef) (smR cr cd i))::opA (decide (smM cr cd+cr.toNat≤j)) (ints 3 ((θ 5).getD 0 undef) (smR cr cd j))::ints 3 v1 (List.replicate (smN cr cd) 0)::box gn 3 [.int .i64 (nn)]::box gr 64 [.int .i64 (cr),vcd,vL,.map (some gmp)]::box gc 27 [.int .i64 (cr),vcd]::box gh 3 [.int .i64 (hh)]::box gp 3 [.int .i64 (p)]::box gs 66 [.int .i64 (cr),vcd,vLz,.map (some gmq),.map (some gqp),.map (some gk)]::memA gk cr cd::own) rfl ?_
 have hs11:IsS ((θ 2).getD 0 undef):=h2a.1
 have hs12:(isNilV ((θ 2).getD 0 undef)=smH cr cd i):=h2a.2.1
 have hs13:(i<smM cr cd→((θ 2).getD 0 undef)=uL.getD i undef):=h2a.2.2
 clear h2a
 generalize ((θ 2).getD 0 undef)=v14 at *
 have hs15:IsS ((θ 5).getD 0 undef):=h5a.1
 have hs16:(isNilV ((θ 5).getD 0 undef)=smH cr cd j):=h5a.2.1
 have hs17:(j<smM cr cd→((θ 5).getD 0 undef)=uL.getD j undef):=h5a.2.2
 clear h5a
 generalize ((θ 5).getD 0 undef)=v18 at *
 show G _ _ _ [_,_] _ _ _ _
 refine Za rfl (Za rfl (Zn (Zt (Zs (GC.block (Zs ?_))))))
 rcases Bool.eq_false_or_eq_true (smH cr cd i) with hx19 | hx19
 rcases Bool.eq_false_or_eq_true (smH cr cd j) with hx20 | hx20
 have hHi:=hx19
 have hnli:=hs12.trans hx19
 obtain⟨hHi1,hHi2⟩:=smH_bd hHi
 have hHj:=hx20
 have hnlj:=hs16.trans hx20
 obtain⟨hHj1,hHj2⟩:=smH_bd hHj
 refine Zr (Zm rfl (Zd (OD.eqv (OD.eqlNil rfl et22.ht rfl hs11 rfl) (congrArg Value.bool ((hnli):_=true))) rfl ?_))
 refine Zm rfl (G.stepGD (OD.move rfl rfl) rfl rfl rfl rfl rfl ?_)
 refine G.stepGD (OD.eqv (OD.eqlNil rfl et22.ht rfl hs15 rfl) (congrArg Value.bool ((hnlj):_=true))) rfl rfl rfl rfl rfl ?_
 refine Zd (OD.pickT rfl rfl rfl) rfl ?_
 refine Za rfl (Zn (Zt (GC.condT rfl (Zk (GE.blockN (Zt (Zs (Zr ?_))))))))
 refine Zm rfl (Za rfl (Zn (Zt (GC.ret ?_))))
 exact GE.body [2,2,2,2,2,2,2,2] 2 (res1 rfl rfl) rfl (⟨v1,rfl,hs2,congrArg (fun(l0:List Int)=>ints 3 v1 l0::box gn 3 [.int .i64 (nn)]::box gr 64 [.int .i64 (cr),vcd,vL,.map (some gmp)]::box gc 27 [.int .i64 (cr),vcd]::box gh 3 [.int .i64 (hh)]::box gp 3 [.int .i64 (p)]::box gs 66 [.int .i64 (cr),vcd,vLz,.map (some gmq),.map (some gqp),.map (some gk)]::memA gk cr cd::own) ((rw_HH hHi hHj:List.replicate (smN cr cd) 0=rwF cr cd p i j))⟩)
 have hHi:=hx19
 have hnli:=hs12.trans hx19
 obtain⟨hHi1,hHi2⟩:=smH_bd hHi
 have hHj:=hx20
 have hnlj:=hs16.trans hx20
 have hrj:=smR_rt hS hj hHj
 obtain⟨hlj,h10j,_⟩:=rt_tens hS hrj
 refine Zr (Zm rfl (Zd (OD.eqv (OD.eqlNil rfl et22.ht rfl hs11 rfl) (congrArg Value.bool ((hnli):_=true))) rfl ?_))
 refine Zm rfl (G.stepGD (OD.move rfl rfl) rfl rfl rfl rfl rfl ?_)
 refine G.stepGD (OD.eqv (OD.eqlNil rfl et22.ht rfl hs15 rfl) (congrArg Value.bool ((hnlj):_=false))) rfl rfl rfl rfl rfl ?_
 refine Zd (OD.pickT rfl rfl rfl) rfl ?_
 refine Za rfl (Zn (Zt (GC.condF rfl (Zs (Zr ?_)))))
 refine Zm rfl (Zd (OD.eqv (OD.eqlNil rfl et22.ht rfl hs11 rfl) (congrArg Value.bool ((hnli):_=true))) rfl ?_)
 refine Za rfl (Zn (Zt (GC.condT rfl ?_)))
 have hw12:=fun q=>wtA hS hrj q
 have hwl:=wtF_len cr cd (smR cr cd j)
 refine GC.at [] 0 (env':=[(0,.int .i64 ((i:Int))),(1,.int .i64 ((j:Int))),(4,.pointer (some ⟨gc,0,none⟩)),(5,.pointer (some ⟨gh,0,none⟩)),(6,.pointer (some ⟨gp,0,none⟩)),(11,v1),(13,v18)]) ⟨rfl,rfl,rfl,rfl,rfl,rfl,rfl,trivial⟩ rfl ?_
 refine GC.par (its:=[Z0 34 v1,
     Z0 35 (.int .i64 ((j:Int))),
     Z0 36 (.agg #[.int .i64 (cr),vcd]),
     Z0 37 v18,
     ⟨38,[(2,36),(3,37)],[],[],[4],fun ds=>((ds.getD 0 []).getD 0 undef),fun ds=>IsS ((ds.getD 0 []).getD 0 undef),fun ds=>[ints 3 ((ds.getD 0 []).getD 0 undef) (wtF cr cd (smR cr cd j))]⟩,
     Z0 39 (.int .i64 ((i:Int))),
     Z0 40 (.int .i64 (hh)),
     Z1 41 [(5,39),(6,40)] (.int .i64 ((i:Int) - hh)),
     ⟨42,[(4,38),(7,41)],[4],[],[4],fun ds=>elemPtr (((ds.getD 0 []).getD 0 undef)) 1 (((i:Int) - hh:Int).toNat),fun _=>True,fun _=>[]⟩,
     ⟨43,[(8,42)],[4],[],[4],fun _ => .int .i64 ((wtF cr cd (smR cr cd j)).getD (i - smM cr cd) 0),fun _=>True,fun _=>[]⟩,
     Z0 44 (.int .i64 (p)),
     ⟨45,[(9,43),(10,44)],[4],[],[4],fun _ => .int .i64 (((wtF cr cd (smR cr cd j)).getD (i - smM cr cd) 0)%p),fun _=>True,fun _=>[]⟩,
     Z1 46 [(0,34),(1,35)] (elemPtr v1 1 (j))]) (by kernel_rfl) (by kernel_rfl) (Zc ?_ (Zc ?_ (Zc ?_ (Zc ?_ (Zc ?_ (Zc ?_ (Zc ?_ (Zc ?_ (Zc ?_ (Zc ?_ (Zc ?_ (Zc ?_ (Zc ?_ POps.nil))))))))))))) ?_
 exact fun θ R hd=>Zq (OD.move rfl rfl) rfl
 exact fun θ R hd=>Zq (OD.move rfl rfl) rfl
 exact fun θ R hd=>Zq (OD.loadAgg rfl ti27 rfl (i:=5) rfl (us:=[.int .i64 (cr),vcd]) rfl rfl) rfl
 exact fun θ R hd=>Zq (OD.move rfl rfl) rfl
 exact fun θ R ⟨h2d,h3d,_⟩=>Opp.plain (OG.imp (OG.call [.agg #[.int .i64 (cr),vcd],v18] ent66 rfl rfl rfl rfl (by exact(weightOf_w scd (Ent.drop 10 ecd.app) hs15 (el_view hHj hs17 (fun k hk=>by exact Ent.drop 10 ((mL k hk).app)) (k:=1) rfl) (hcr) (hcd) (by omega)))) (by rintro v21 _ ⟨_,rfl,hs22,rfl⟩;exact⟨[v21],rfl,hs22,rfl⟩)) rfl
 exact fun θ R hd=>Zq (OD.move rfl rfl) rfl
 exact fun θ R hd=>Zq (OD.load rfl ti3 rfl (i:=6) rfl rfl) rfl
 exact fun θ R ⟨h5d,h6d,_⟩=>Zq (OD.subI rfl rfl rfl (by first | omega | (simp only[List.length_set,List.length_replicate];omega))) rfl
 exact fun θ R ⟨h4d,h7d,_⟩=>Zq (OD.indexAddr rfl et22 rfl (Ent.ints (i:=0) rfl) rfl (by first | omega | (simp only[List.length_set,List.length_replicate];omega))) rfl
 exact fun θ R ⟨h8d,_⟩=>Zq (OD.eqv (OD.loadInt rfl ti3 rfl (Ent.ints (i:=0) rfl) (by first | omega | (simp only[List.length_set,List.length_replicate];omega))) (congrArg (Value.int .i64) ((by congr 1;omega):((wtF cr cd (smR cr cd j)).getD (((i:Int) - hh:Int).toNat) 0:Int)=((wtF cr cd (smR cr cd j)).getD (i - smM cr cd) 0)))) rfl
 exact fun θ R hd=>Zq (OD.load rfl ti3 rfl (i:=7) rfl rfl) rfl
 exact fun θ R ⟨h9d,h10d,_⟩=>Zq (OG.call [.int .i64 ((wtF cr cd (smR cr cd j)).getD (i - smM cr cd) 0),.int .i64 (p)] ent65 rfl rfl rfl rfl (by exact(mod_s (hpp)))) rfl
 exact fun θ R ⟨h0d,h1d,_⟩=>Zq (OD.indexAddr rfl et22 rfl (Ent.ints (i:=2) rfl) rfl (by first | omega | (simp only[List.length_set,List.length_replicate];omega))) rfl
 intro θ hall
 obtain⟨_,_,_,_,h4a,_,_,_,_,_,_,_,_,_⟩:=hall
 refine G.at [] 0 (env':=[(11,v1),(45,.int .i64 (((wtF cr cd (smR cr cd j)).getD (i - smM cr cd) 0)%p)),(46,elemPtr v1 1 (j))]) ⟨rfl,rfl,rfl,trivial⟩ (own':=ints 3 ((θ 4).getD 0 undef) (wtF cr cd (smR cr cd j))::opA (decide (smM cr cd+cr.toNat≤i)) (ints 3 v14 (smR cr cd i))::opA (decide (smM cr cd+cr.toNat≤j)) (ints 3 v18 (smR cr cd j))::ints 3 v1 (List.replicate (smN cr cd) 0)::box gn 3 [.int .i64 (nn)]::box gr 64 [.int .i64 (cr),vcd,vL,.map (some gmp)]::box gc 27 [.int .i64 (cr),vcd]::box gh 3 [.int .i64 (hh)]::box gp 3 [.int .i64 (p)]::box gs 66 [.int .i64 (cr),vcd,vLz,.map (some gmq),.map (some gqp),.map (some gk)]::memA gk cr cd::own) rfl ?_
 have hs23:IsS ((θ 4).getD 0 undef):=h4a
 clear h4a
 generalize ((θ 4).getD 0 undef)=v24 at *
 show G _ _ _ [_] _ _ _ _
 refine G.stepD0 (OD.storeInt rfl ti3 rfl rfl (i:=3) rfl (by first | omega | (simp only[List.length_set,List.length_replicate];omega))) rfl rfl ?_
 refine Zn (GE.blockN (Zt (Zs (Zr ?_))))
 refine Zm rfl (Za rfl (Zn (Zt (GC.ret ?_))))
 exact GE.body [3,3,3,3,3,3,3,3] 3 (res1 rfl rfl) rfl (⟨v1,rfl,hs2,congrArg (fun(l0:List Int)=>ints 3 v1 l0::box gn 3 [.int .i64 (nn)]::box gr 64 [.int .i64 (cr),vcd,vL,.map (some gmp)]::box gc 27 [.int .i64 (cr),vcd]::box gh 3 [.int .i64 (hh)]::box gp 3 [.int .i64 (p)]::box gs 66 [.int .i64 (cr),vcd,vLz,.map (some gmq),.map (some gqp),.map (some gk)]::memA gk cr cd::own) ((rw_Hx hj hHi hHj:(List.replicate (smN cr cd) 0).set (j) (((wtF cr cd (smR cr cd j)).getD (i - smM cr cd) 0)%p)=rwF cr cd p i j))⟩)
 rcases Bool.eq_false_or_eq_true (smH cr cd j) with hx25 | hx25
 have hHi:=hx19
 have hnli:=hs12.trans hx19
 have hri:=smR_rt hS hi hHi
 obtain⟨hli,h10i,_⟩:=rt_tens hS hri
 have hHj:=hx25
 have hnlj:=hs16.trans hx25
 obtain⟨hHj1,hHj2⟩:=smH_bd hHj
 refine Zr (Zm rfl (Zd (OD.eqv (OD.eqlNil rfl et22.ht rfl hs11 rfl) (congrArg Value.bool ((hnli):_=false))) rfl ?_))
 refine Zm rfl (G.skipG rfl rfl rfl rfl rfl rfl (G.skipG rfl rfl rfl rfl rfl rfl ?_))
 refine Zd (OD.pickF rfl rfl rfl) rfl ?_
 refine Za rfl (Zn (Zt (GC.condF rfl (Zs (Zr ?_)))))
 refine Zm rfl (Zd (OD.eqv (OD.eqlNil rfl et22.ht rfl hs11 rfl) (congrArg Value.bool ((hnli):_=false))) rfl ?_)
 refine Za rfl (Zn (Zt (GC.condF rfl (Zs (Zr ?_)))))
 refine Zm rfl (Zd (OD.eqv (OD.eqlNil rfl et22.ht rfl hs15 rfl) (congrArg Value.bool ((hnlj):_=true))) rfl ?_)
 refine Za rfl (Zn (Zt (GC.condT rfl ?_)))
 have hw12:=fun q=>wtA hS hri q
 have hwl:=wtF_len cr cd (smR cr cd i)
 refine GC.at [] 0 (env':=[(0,.int .i64 ((i:Int))),(1,.int .i64 ((j:Int))),(4,.pointer (some ⟨gc,0,none⟩)),(5,.pointer (some ⟨gh,0,none⟩)),(6,.pointer (some ⟨gp,0,none⟩)),(11,v1),(12,v14)]) ⟨rfl,rfl,rfl,rfl,rfl,rfl,rfl,trivial⟩ rfl ?_
 refine GC.par (its:=[Z0 50 v1,
     Z0 51 (.int .i64 ((i:Int))),
     Z0 52 (.agg #[.int .i64 (cr),vcd]),
     Z0 53 v14,
     ⟨54,[(2,52),(3,53)],[],[],[4],fun ds=>((ds.getD 0 []).getD 0 undef),fun ds=>IsS ((ds.getD 0 []).getD 0 undef),fun ds=>[ints 3 ((ds.getD 0 []).getD 0 undef) (wtF cr cd (smR cr cd i))]⟩,
     Z0 55 (.int .i64 ((j:Int))),
     Z0 56 (.int .i64 (hh)),
     Z1 57 [(5,55),(6,56)] (.int .i64 ((j:Int) - hh)),
     ⟨58,[(4,54),(7,57)],[4],[],[4],fun ds=>elemPtr (((ds.getD 0 []).getD 0 undef)) 1 (((j:Int) - hh:Int).toNat),fun _=>True,fun _=>[]⟩,
     ⟨59,[(8,58)],[4],[],[4],fun _ => .int .i64 ((wtF cr cd (smR cr cd i)).getD (j - smM cr cd) 0),fun _=>True,fun _=>[]⟩,
     ⟨60,[(9,59)],[4],[],[4],fun _ => .int .i64 (0 - (wtF cr cd (smR cr cd i)).getD (j - smM cr cd) 0),fun _=>True,fun _=>[]⟩,
     Z0 61 (.int .i64 (p)),
     ⟨62,[(10,60),(11,61)],[4],[],[4],fun _ => .int .i64 ((0 - (wtF cr cd (smR cr cd i)).getD (j - smM cr cd) 0)%p),fun _=>True,fun _=>[]⟩,
     Z1 63 [(0,50),(1,51)] (elemPtr v1 1 (i))]) (by kernel_rfl) (by kernel_rfl) (Zc ?_ (Zc ?_ (Zc ?_ (Zc ?_ (Zc ?_ (Zc ?_ (Zc ?_ (Zc ?_ (Zc ?_ (Zc ?_ (Zc ?_ (Zc ?_ (Zc ?_ (Zc ?_ POps.nil)))))))))))))) ?_
 exact fun θ R hd=>Zq (OD.move rfl rfl) rfl
 exact fun θ R hd=>Zq (OD.move rfl rfl) rfl
 exact fun θ R hd=>Zq (OD.loadAgg rfl ti27 rfl (i:=5) rfl (us:=[.int .i64 (cr),vcd]) rfl rfl) rfl
 exact fun θ R hd=>Zq (OD.move rfl rfl) rfl
 exact fun θ R ⟨h2d,h3d,_⟩=>Opp.plain (OG.imp (OG.call [.agg #[.int .i64 (cr),vcd],v14] ent66 rfl rfl rfl rfl (by exact(weightOf_w scd (Ent.drop 10 ecd.app) hs11 (el_view hHi hs13 (fun k hk=>by exact Ent.drop 10 ((mL k hk).app)) (k:=0) rfl) (hcr) (hcd) (by omega)))) (by rintro v26 _ ⟨_,rfl,hs27,rfl⟩;exact⟨[v26],rfl,hs27,rfl⟩)) rfl
 exact fun θ R hd=>Zq (OD.move rfl rfl) rfl
 exact fun θ R hd=>Zq (OD.load rfl ti3 rfl (i:=6) rfl rfl) rfl
 exact fun θ R ⟨h5d,h6d,_⟩=>Zq (OD.subI rfl rfl rfl (by first | omega | (simp only[List.length_set,List.length_replicate];omega))) rfl
 exact fun θ R ⟨h4d,h7d,_⟩=>Zq (OD.indexAddr rfl et22 rfl (Ent.ints (i:=0) rfl) rfl (by first | omega | (simp only[List.length_set,List.length_replicate];omega))) rfl
 exact fun θ R ⟨h8d,_⟩=>Zq (OD.eqv (OD.loadInt rfl ti3 rfl (Ent.ints (i:=0) rfl) (by first | omega | (simp only[List.length_set,List.length_replicate];omega))) (congrArg (Value.int .i64) ((by congr 1;omega):((wtF cr cd (smR cr cd i)).getD (((j:Int) - hh:Int).toNat) 0:Int)=((wtF cr cd (smR cr cd i)).getD (j - smM cr cd) 0)))) rfl
 exact fun θ R ⟨h9d,_⟩=>Zq (OD.negI rfl rfl (by have:=hw12 (j - smM cr cd);omega)) rfl
 exact fun θ R hd=>Zq (OD.load rfl ti3 rfl (i:=7) rfl rfl) rfl
 exact fun θ R ⟨h10d,h11d,_⟩=>Zq (OG.call [.int .i64 (0 - (wtF cr cd (smR cr cd i)).getD (j - smM cr cd) 0),.int .i64 (p)] ent65 rfl rfl rfl rfl (by exact(mod_s (hpp)))) rfl
 exact fun θ R ⟨h0d,h1d,_⟩=>Zq (OD.indexAddr rfl et22 rfl (Ent.ints (i:=2) rfl) rfl (by first | omega | (simp only[List.length_set,List.length_replicate];omega))) rfl
 intro θ hall
 obtain⟨_,_,_,_,h4a,_,_,_,_,_,_,_,_,_,_⟩:=hall
 refine G.at [] 0 (env':=[(11,v1),(62,.int .i64 ((0 - (wtF cr cd (smR cr cd i)).getD (j - smM cr cd) 0)%p)),(63,elemPtr v1 1 (i))]) ⟨rfl,rfl,rfl,trivial⟩ (own':=ints 3 ((θ 4).getD 0 undef) (wtF cr cd (smR cr cd i))::opA (decide (smM cr cd+cr.toNat≤i)) (ints 3 v14 (smR cr cd i))::opA (decide (smM cr cd+cr.toNat≤j)) (ints 3 v18 (smR cr cd j))::ints 3 v1 (List.replicate (smN cr cd) 0)::box gn 3 [.int .i64 (nn)]::box gr 64 [.int .i64 (cr),vcd,vL,.map (some gmp)]::box gc 27 [.int .i64 (cr),vcd]::box gh 3 [.int .i64 (hh)]::box gp 3 [.int .i64 (p)]::box gs 66 [.int .i64 (cr),vcd,vLz,.map (some gmq),.map (some gqp),.map (some gk)]::memA gk cr cd::own) rfl ?_
 have hs28:IsS ((θ 4).getD 0 undef):=h4a
 clear h4a
 generalize ((θ 4).getD 0 undef)=v29 at *
 show G _ _ _ [_] _ _ _ _
 refine G.stepD0 (OD.storeInt rfl ti3 rfl rfl (i:=3) rfl (by first | omega | (simp only[List.length_set,List.length_replicate];omega))) rfl rfl ?_
 refine Zn (GE.blockN (Zt (Zs (Zr ?_))))
 refine Zm rfl (Za rfl (Zn (Zt (GC.ret ?_))))
 exact GE.body [3,3,3,3,3,3,3,3] 3 (res1 rfl rfl) rfl (⟨v1,rfl,hs2,congrArg (fun(l0:List Int)=>ints 3 v1 l0::box gn 3 [.int .i64 (nn)]::box gr 64 [.int .i64 (cr),vcd,vL,.map (some gmp)]::box gc 27 [.int .i64 (cr),vcd]::box gh 3 [.int .i64 (hh)]::box gp 3 [.int .i64 (p)]::box gs 66 [.int .i64 (cr),vcd,vLz,.map (some gmq),.map (some gqp),.map (some gk)]::memA gk cr cd::own) ((rw_xH hi hHi hHj:(List.replicate (smN cr cd) 0).set (i) ((0 - (wtF cr cd (smR cr cd i)).getD (j - smM cr cd) 0)%p)=rwF cr cd p i j))⟩)
 have hHi:=hx19
 have hnli:=hs12.trans hx19
 have hri:=smR_rt hS hi hHi
 obtain⟨hli,h10i,_⟩:=rt_tens hS hri
 have hHj:=hx25
 have hnlj:=hs16.trans hx25
 have hrj:=smR_rt hS hj hHj
 obtain⟨hlj,h10j,_⟩:=rt_tens hS hrj
 refine Zr (Zm rfl (Zd (OD.eqv (OD.eqlNil rfl et22.ht rfl hs11 rfl) (congrArg Value.bool ((hnli):_=false))) rfl ?_))
 refine Zm rfl (G.skipG rfl rfl rfl rfl rfl rfl (G.skipG rfl rfl rfl rfl rfl rfl ?_))
 refine Zd (OD.pickF rfl rfl rfl) rfl ?_
 refine Za rfl (Zn (Zt (GC.condF rfl (Zs (Zr ?_)))))
 refine Zm rfl (Zd (OD.eqv (OD.eqlNil rfl et22.ht rfl hs11 rfl) (congrArg Value.bool ((hnli):_=false))) rfl ?_)
 refine Za rfl (Zn (Zt (GC.condF rfl (Zs (Zr ?_)))))
 refine Zm rfl (Zd (OD.eqv (OD.eqlNil rfl et22.ht rfl hs15 rfl) (congrArg Value.bool ((hnlj):_=false))) rfl ?_)
 refine Za rfl (Zn (Zt (GC.condF rfl (Zs (Zr ?_)))))
 refine Zm rfl (Zm rfl (G.step (OG.call [v14,.int .i64 (1),v18] ent68 rfl rfl rfl rfl (by exact(listPlus_w hs11 (el_view hHi hs13 (fun k hk=>by exact Ent.drop 10 ((mL k hk))) (k:=0) rfl) hs15 (el_view hHj hs17 (fun k hk=>by exact Ent.drop 10 ((mL k hk))) (k:=1) rfl) (by omega) (by omega)))) rfl rfl rfl ?_))
 rintro v30 _ ⟨_,rfl,hs31,rfl⟩
 refine G.step (OG.call [v30] ent67 rfl rfl rfl rfl (by exact(isZero_s hs31 (Ent.ints (i:=0) rfl)))) rfl rfl rfl ?_
 rintro _ _ ⟨rfl,rfl⟩
 refine Za rfl (Zn (Zt ?_))
 refine GC.cond rfl (fun hc32=>?_) (fun hc32=>?_)
 refine Zs ?_
 have hcrl:=crF_len cr cd (smR cr cd i)
 refine Zr (Zd (OD.loadAgg rfl ti27 rfl (i:=6) rfl (us:=[.int .i64 (cr),vcd]) rfl rfl) rfl ?_)
 refine Zm rfl (G.step (OG.call [.agg #[.int .i64 (cr),vcd],v14] ent69 rfl rfl rfl rfl (by exact(coroot_w scd (Ent.drop 11 ecd) hs11 (el_view hHi hs13 (fun k hk=>by exact Ent.drop 11 ((mL k hk))) (k:=1) rfl) (hS) (by omega) (in_two hS hri)))) rfl rfl rfl ?_)
 rintro v33 _ ⟨_,rfl,hs34,rfl⟩
 refine Zd (OD.len rfl rfl et22 rfl (Ent.ints (i:=0) rfl)) rfl ?_
 refine Zm rfl (Zn (Zt (GC.block ?_)))
 refine GC.ownEq (own':=ints 3 v33 (crF cr cd (smR cr cd i))::ints 3 v30 (lpF (smR cr cd i) 1 (smR cr cd j))::opA (decide (smM cr cd+cr.toNat≤i)) (ints 3 v14 (smR cr cd i))::opA (decide (smM cr cd+cr.toNat≤j)) (ints 3 v18 (smR cr cd j))::ints 3 v1 (coR cr cd p i 0)::box gn 3 [.int .i64 (nn)]::box gr 64 [.int .i64 (cr),vcd,vL,.map (some gmp)]::box gc 27 [.int .i64 (cr),vcd]::box gh 3 [.int .i64 (hh)]::box gp 3 [.int .i64 (p)]::box gs 66 [.int .i64 (cr),vcd,vLz,.map (some gmq),.map (some gqp),.map (some gk)]::memA gk cr cd::own) (rfl) ?_
 refine GC.loop (ι:=Nat) (fun k=>[(5,.pointer (some ⟨gh,0,none⟩)),(6,.pointer (some ⟨gp,0,none⟩)),(11,v1),(71,v33),(72,.int .i64 (((crF cr cd (smR cr cd i)).length:Nat))),(73,.int .i64 ((k:Int)))]) (fun k=>ints 3 v33 (crF cr cd (smR cr cd i))::ints 3 v30 (lpF (smR cr cd i) 1 (smR cr cd j))::opA (decide (smM cr cd+cr.toNat≤i)) (ints 3 v14 (smR cr cd i))::opA (decide (smM cr cd+cr.toNat≤j)) (ints 3 v18 (smR cr cd j))::ints 3 v1 (coR cr cd p i k)::box gn 3 [.int .i64 (nn)]::box gr 64 [.int .i64 (cr),vcd,vL,.map (some gmp)]::box gc 27 [.int .i64 (cr),vcd]::box gh 3 [.int .i64 (hh)]::box gp 3 [.int .i64 (p)]::box gs 66 [.int .i64 (cr),vcd,vLz,.map (some gmq),.map (some gqp),.map (some gk)]::memA gk cr cd::own) (fun k=>(k≤cr.toNat)) (fun k=>cr.toNat - k) 0 (by omega) ⟨rfl,rfl,rfl,rfl,rfl,rfl,trivial⟩ [] 0 rfl ?_
 rintro k hk
 refine Zs (Zr (Zd (OD.lss rfl rfl rfl) rfl ?_))
 refine Zn (Zt (Zs ?_))
 refine GC.cond rfl (fun hc35=>?_) (fun hc35=>?_)
 replace hc35:=of_decide_eq_true hc35
 have hqk:(hh+(k:Int)).toNat=smM cr cd+k:=by omega
 have hcl2:=coR_len (n:=cr) (d:=cd) (p:=p) (i:=i) k
 refine Zk (Zt (Zs (GC.block (Zs (Zr ?_)))))
 refine Zm rfl (Zd (OD.indexAddr rfl et22 rfl (Ent.ints (i:=0) rfl) rfl (by omega)) rfl ?_)
 refine Zd (OD.loadInt rfl ti3 rfl (Ent.ints (i:=0) rfl) (by omega)) rfl ?_
 refine Za rfl (Za rfl (Zn (Zt (GC.at [] 0 (env':=[(5,.pointer (some ⟨gh,0,none⟩)),(6,.pointer (some ⟨gp,0,none⟩)),(11,v1),(71,v33),(72,.int .i64 (((crF cr cd (smR cr cd i)).length:Nat))),(73,.int .i64 ((k:Int))),(14,.int .i64 ((k:Int))),(15,.int .i64 ((crF cr cd (smR cr cd i)).getD (k) 0))]) ⟨rfl,rfl,rfl,rfl,rfl,rfl,rfl,rfl,trivial⟩ rfl ?_))))
 refine GC.par (its:=[Z0 78 v1,
     Z0 79 (.int .i64 (hh)),
     Z0 80 (.int .i64 ((k:Int))),
     Z1 81 [(1,79),(2,80)] (.int .i64 (hh+(k:Int))),
     Z0 82 (.int .i64 ((crF cr cd (smR cr cd i)).getD (k) 0)),
     Z0 83 (.int .i64 (p)),
     Z1 84 [(4,82),(5,83)] (.int .i64 (((crF cr cd (smR cr cd i)).getD (k) 0)%p)),
     Z1 85 [(0,78),(3,81)] (elemPtr v1 1 ((hh+(k:Int):Int).toNat))]) (by kernel_rfl) (by kernel_rfl) (Zc ?_ (Zc ?_ (Zc ?_ (Zc ?_ (Zc ?_ (Zc ?_ (Zc ?_ (Zc ?_ POps.nil)))))))) ?_
 exact fun θ R hd=>Zq (OD.move rfl rfl) rfl
 exact fun θ R hd=>Zq (OD.load rfl ti3 rfl (i:=8) rfl rfl) rfl
 exact fun θ R hd=>Zq (OD.move rfl rfl) rfl
 exact fun θ R ⟨h1d,h2d,_⟩=>Zq (OD.addI rfl rfl rfl (by omega)) rfl
 exact fun θ R hd=>Zq (OD.move rfl rfl) rfl
 exact fun θ R hd=>Zq (OD.load rfl ti3 rfl (i:=9) rfl rfl) rfl
 exact fun θ R ⟨h4d,h5d,_⟩=>Zq (OG.call [.int .i64 ((crF cr cd (smR cr cd i)).getD (k) 0),.int .i64 (p)] ent65 rfl rfl rfl rfl (by exact(mod_s (hpp)))) rfl
 exact fun θ R ⟨h0d,h3d,_⟩=>Zq (OD.indexAddr rfl et22 rfl (Ent.ints (i:=4) rfl) rfl (by omega)) rfl
 intro θ hall
 obtain⟨_,_,_,_,_,_,_,_,_⟩:=hall
 refine G.at [] 0 (env':=[(5,.pointer (some ⟨gh,0,none⟩)),(6,.pointer (some ⟨gp,0,none⟩)),(11,v1),(71,v33),(72,.int .i64 (((crF cr cd (smR cr cd i)).length:Nat))),(73,.int .i64 ((k:Int))),(84,.int .i64 (((crF cr cd (smR cr cd i)).getD (k) 0)%p)),(85,elemPtr v1 1 ((hh+(k:Int):Int).toNat))]) ⟨rfl,rfl,rfl,rfl,rfl,rfl,rfl,rfl,trivial⟩ (own':=ints 3 v33 (crF cr cd (smR cr cd i))::ints 3 v30 (lpF (smR cr cd i) 1 (smR cr cd j))::opA (decide (smM cr cd+cr.toNat≤i)) (ints 3 v14 (smR cr cd i))::opA (decide (smM cr cd+cr.toNat≤j)) (ints 3 v18 (smR cr cd j))::ints 3 v1 (coR cr cd p i k)::box gn 3 [.int .i64 (nn)]::box gr 64 [.int .i64 (cr),vcd,vL,.map (some gmp)]::box gc 27 [.int .i64 (cr),vcd]::box gh 3 [.int .i64 (hh)]::box gp 3 [.int .i64 (p)]::box gs 66 [.int .i64 (cr),vcd,vLz,.map (some gmq),.map (some gqp),.map (some gk)]::memA gk cr cd::own) rfl ?_
 show G _ _ _ [_] _ _ _ _
 refine G.stepD0 (OD.storeInt rfl ti3 rfl rfl (i:=4) rfl (by omega)) rfl rfl ?_
 refine Zn (GE.blockN (Zt (Zr ?_)))
 refine Zd (OD.addI rfl rfl rfl (by first | omega | (simp only[List.length_set,List.length_replicate];omega))) rfl ?_
 refine Zm rfl (Zn ?_)
 refine GE.ownEq (own':=ints 3 v33 (crF cr cd (smR cr cd i))::ints 3 v30 (lpF (smR cr cd i) 1 (smR cr cd j))::opA (decide (smM cr cd+cr.toNat≤i)) (ints 3 v14 (smR cr cd i))::opA (decide (smM cr cd+cr.toNat≤j)) (ints 3 v18 (smR cr cd j))::ints 3 v1 (coR cr cd p i (k+1))::box gn 3 [.int .i64 (nn)]::box gr 64 [.int .i64 (cr),vcd,vL,.map (some gmp)]::box gc 27 [.int .i64 (cr),vcd]::box gh 3 [.int .i64 (hh)]::box gp 3 [.int .i64 (p)]::box gs 66 [.int .i64 (cr),vcd,vLz,.map (some gmq),.map (some gqp),.map (some gk)]::memA gk cr cd::own) (by rw[← coR_next,hqk] <;> rfl) ?_
 exact GE.again (k+1) (by omega) (by first | omega | (dsimp only;omega)) ⟨rfl,rfl,rfl,rfl,rfl,rfl,trivial⟩ [] 0 rfl
 replace hc35:=of_decide_eq_false hc35
 refine GC.exit (Zp (Zp (GE.hit (GE.blockN (Zt (Zs (Zr ?_)))))))
 refine Zm rfl (Za rfl (Zn (Zt (GC.ret ?_))))
 exact GE.body [4,4,4,4,4,4,4,4] 4 (res1 rfl rfl) rfl (⟨v1,rfl,hs2,congrArg (fun(l0:List Int)=>ints 3 v1 l0::box gn 3 [.int .i64 (nn)]::box gr 64 [.int .i64 (cr),vcd,vL,.map (some gmp)]::box gc 27 [.int .i64 (cr),vcd]::box gh 3 [.int .i64 (hh)]::box gp 3 [.int .i64 (p)]::box gs 66 [.int .i64 (cr),vcd,vLz,.map (some gmq),.map (some gqp),.map (some gk)]::memA gk cr cd::own) (((congrArg _ (show k=cr.toNat by omega)).trans (row_co hS hHi hHj hi hj hc32):coR cr cd p i k=rwF cr cd p i j))⟩)
 refine Zs (GC.at [] 0 (env':=[(3,.pointer (some ⟨gr,0,none⟩)),(6,.pointer (some ⟨gp,0,none⟩)),(7,.pointer (some ⟨gs,0,none⟩)),(11,v1),(12,v14),(13,v18)]) ⟨rfl,rfl,rfl,rfl,rfl,rfl,trivial⟩ rfl ?_)
 refine GC.par (its:=[Z0 88 (.agg #[.int .i64 (cr),vcd,vL,.map (some gmp)]),
     Z0 89 v14,
     Z0 90 v18,
     ⟨91,[(1,89),(2,90)],[],[],[3],fun ds=>((ds.getD 0 []).getD 0 undef),fun ds=>IsS ((ds.getD 0 []).getD 0 undef),fun ds=>[ints 3 ((ds.getD 0 []).getD 0 undef) (lpF (smR cr cd i) 1 (smR cr cd j))]⟩,
     ⟨92,[(0,88),(3,91)],[3],[],[3],fun _ => .bool (fdB cr (rKvs cr cd) (lpF (smR cr cd i) 1 (smR cr cd j))),fun _=>True,fun _=>[]⟩]) (by kernel_rfl) (by kernel_rfl) (Zc ?_ (Zc ?_ (Zc ?_ (Zc ?_ (Zc ?_ POps.nil))))) ?_
 exact fun θ R hd=>Zq (OD.loadAgg rfl ti64 rfl (i:=5) rfl (us:=[.int .i64 (cr),vcd,vL,.map (some gmp)]) rfl rfl) rfl
 exact fun θ R hd=>Zq (OD.move rfl rfl) rfl
 exact fun θ R hd=>Zq (OD.move rfl rfl) rfl
 exact fun θ R ⟨h1d,h2d,_⟩=>Opp.plain (OG.imp (OG.call [v14,.int .i64 (1),v18] ent68 rfl rfl rfl rfl (by exact(listPlus_w hs11 (el_view hHi hs13 (fun k hk=>by exact Ent.drop 11 ((mL k hk).app)) (k:=1) rfl) hs15 (el_view hHj hs17 (fun k hk=>by exact Ent.drop 11 ((mL k hk).app)) (k:=2) rfl) (by omega) (by omega)))) (by rintro v36 _ ⟨_,rfl,hs37,rfl⟩;exact⟨[v36],rfl,hs37,rfl⟩)) rfl
 exact fun θ R ⟨h0d,h3d,_⟩=>Zq (OG.call [.agg #[.int .i64 (cr),vcd,vL,.map (some gmp)],((θ 3).getD 0 undef)] ent52 rfl rfl rfl rfl (by exact(has_w scd sL (Ent.drop 12 eL.app) (Ent.drop 12 hmp.app) h3d (Ent.ints (i:=0) rfl) (by omega) (lpF_all64 (rt_64 hS hri)) (by rw[lpF_len];omega) ((Ent.drop 12 htab.app))))) rfl
 intro θ hall
 obtain⟨_,_,_,h3a,_,_⟩:=hall
 refine G.at [] 0 (env':=[(3,.pointer (some ⟨gr,0,none⟩)),(6,.pointer (some ⟨gp,0,none⟩)),(7,.pointer (some ⟨gs,0,none⟩)),(11,v1),(12,v14),(13,v18),(92,.bool (fdB cr (rKvs cr cd) (lpF (smR cr cd i) 1 (smR cr cd j))))]) ⟨rfl,rfl,rfl,rfl,rfl,rfl,rfl,trivial⟩ (own':=ints 3 ((θ 3).getD 0 undef) (lpF (smR cr cd i) 1 (smR cr cd j))::ints 3 v30 (lpF (smR cr cd i) 1 (smR cr cd j))::opA (decide (smM cr cd+cr.toNat≤i)) (ints 3 v14 (smR cr cd i))::opA (decide (smM cr cd+cr.toNat≤j)) (ints 3 v18 (smR cr cd j))::ints 3 v1 (List.replicate (smN cr cd) 0)::box gn 3 [.int .i64 (nn)]::box gr 64 [.int .i64 (cr),vcd,vL,.map (some gmp)]::box gc 27 [.int .i64 (cr),vcd]::box gh 3 [.int .i64 (hh)]::box gp 3 [.int .i64 (p)]::box gs 66 [.int .i64 (cr),vcd,vLz,.map (some gmq),.map (some gqp),.map (some gk)]::memA gk cr cd::own) rfl ?_
 have hs38:IsS ((θ 3).getD 0 undef):=h3a
 clear h3a
 generalize ((θ 3).getD 0 undef)=v39 at *
 show G _ _ _ [_] _ _ _ _
 refine Za rfl (Zn (Zt ?_))
 refine GC.cond rfl (fun hc40=>?_) (fun hc40=>?_)
 have hrz:rtB (rSt cr cd) (lpF (smR cr cd i) 1 (smR cr cd j))=true:=(of_rt hS hri hrj).symm.trans hc40
 obtain⟨hix1,hix2,hix3⟩:=ix_eq hS hri hrj hrz
 have hbn:=nF_bd hS hri hrj
 refine GC.at [] 0 (env':=[(3,.pointer (some ⟨gr,0,none⟩)),(6,.pointer (some ⟨gp,0,none⟩)),(7,.pointer (some ⟨gs,0,none⟩)),(11,v1),(12,v14),(13,v18)]) ⟨rfl,rfl,rfl,rfl,rfl,rfl,trivial⟩ rfl ?_
 refine GC.par (its:=[Z0 93 v1,
     Z0 94 (.agg #[.int .i64 (cr),vcd,vL,.map (some gmp)]),
     Z0 95 v14,
     Z0 96 v18,
     ⟨97,[(2,95),(3,96)],[],[],[4],fun ds=>((ds.getD 0 []).getD 0 undef),fun ds=>IsS ((ds.getD 0 []).getD 0 undef),fun ds=>[ints 3 ((ds.getD 0 []).getD 0 undef) (lpF (smR cr cd i) 1 (smR cr cd j))]⟩,
     ⟨98,[(1,94),(4,97)],[4],[],[4],fun _ => .int .i64 (fdI cr ((rSt cr cd).length) (rKvs cr cd) (lpF (smR cr cd i) 1 (smR cr cd j))),fun _=>True,fun _=>[]⟩,
     Z0 99 (.agg #[.int .i64 (cr),vcd,vLz,.map (some gmq),.map (some gqp),.map (some gk)]),
     Z0 100 v14,
     Z0 101 v18,
     Z1 102 [(6,99),(7,100),(8,101)] (.int .i64 (nF cr cd (smR cr cd i) (smR cr cd j))),
     Z0 103 (.int .i64 (p)),
     Z1 104 [(9,102),(10,103)] (.int .i64 ((nF cr cd (smR cr cd i) (smR cr cd j))%p)),
     ⟨105,[(0,93),(5,98)],[4],[],[4],fun _=>elemPtr v1 1 ((fdI cr ((rSt cr cd).length) (rKvs cr cd) (lpF (smR cr cd i) 1 (smR cr cd j)):Int).toNat),fun _=>True,fun _=>[]⟩]) (by kernel_rfl) (by kernel_rfl) (Zc ?_ (Zc ?_ (Zc ?_ (Zc ?_ (Zc ?_ (Zc ?_ (Zc ?_ (Zc ?_ (Zc ?_ (Zc ?_ (Zc ?_ (Zc ?_ (Zc ?_ POps.nil))))))))))))) ?_
 exact fun θ R hd=>Zq (OD.move rfl rfl) rfl
 exact fun θ R hd=>Zq (OD.loadAgg rfl ti64 rfl (i:=6) rfl (us:=[.int .i64 (cr),vcd,vL,.map (some gmp)]) rfl rfl) rfl
 exact fun θ R hd=>Zq (OD.move rfl rfl) rfl
 exact fun θ R hd=>Zq (OD.move rfl rfl) rfl
 exact fun θ R ⟨h2d,h3d,_⟩=>Opp.plain (OG.imp (OG.call [v14,.int .i64 (1),v18] ent68 rfl rfl rfl rfl (by exact(listPlus_w hs11 (el_view hHi hs13 (fun k hk=>by exact Ent.drop 12 ((mL k hk).app)) (k:=2) rfl) hs15 (el_view hHj hs17 (fun k hk=>by exact Ent.drop 12 ((mL k hk).app)) (k:=3) rfl) (by omega) (by omega)))) (by rintro v41 _ ⟨_,rfl,hs42,rfl⟩;exact⟨[v41],rfl,hs42,rfl⟩)) rfl
 exact fun θ R ⟨h1d,h4d,_⟩=>Zq (OG.call [.agg #[.int .i64 (cr),vcd,vL,.map (some gmp)],((θ 4).getD 0 undef)] ent70 rfl rfl rfl rfl (by exact(index_w scd sL (Ent.drop 13 eL.app) (Ent.drop 13 hmp.app) h4d (Ent.ints (i:=0) rfl) (by omega) (lpF_all64 (rt_64 hS hri)) (by rw[lpF_len];omega) ((Ent.drop 13 htab.app)) (by omega) (by omega) ((rtOk hS).fp _)))) rfl
 exact fun θ R hd=>Zq (OD.loadAgg rfl ti66 rfl (i:=10) rfl (us:=[.int .i64 (cr),vcd,vLz,.map (some gmq),.map (some gqp),.map (some gk)]) rfl rfl) rfl
 exact fun θ R hd=>Zq (OD.move rfl rfl) rfl
 exact fun θ R hd=>Zq (OD.move rfl rfl) rfl
 exact fun θ R ⟨h6d,h7d,h8d,_⟩=>Zq (OG.call [.agg #[.int .i64 (cr),vcd,vLz,.map (some gmq),.map (some gqp),.map (some gk)],v14,v18] ent41 rfl rfl rfl rfl (by exact(Spec.atIdx (i:=11) rfl (cOf_w (cnM (smR cr cd i) (smR cr cd j)+1) scd (Ent.drop 11 ecd.app) sLz (Ent.drop 11 eLz.app) (fun k hk=>(Ent.drop 11 ((mLz k hk).app))) lLz aLz (Ent.drop 11 hmq.app) (Ent.drop 11 hqp.app) hs11 (el_view hHi hs13 (fun k hk=>by exact Ent.drop 11 ((mL k hk).app)) (k:=2) rfl) hs15 (el_view hHj hs17 (fun k hk=>by exact Ent.drop 11 ((mL k hk).app)) (k:=3) rfl) (hS) (hri) (hrj) (by omega) ((Ent.drop 11 htab.app)))))) rfl
 exact fun θ R hd=>Zq (OD.load rfl ti3 rfl (i:=9) rfl rfl) rfl
 exact fun θ R ⟨h9d,h10d,_⟩=>Zq (OG.call [.int .i64 (nF cr cd (smR cr cd i) (smR cr cd j)),.int .i64 (p)] ent65 rfl rfl rfl rfl (by exact(mod_s (hpp)))) rfl
 exact fun θ R ⟨h0d,h5d,_⟩=>Zq (OD.indexAddr rfl et22 rfl (Ent.ints (i:=5) rfl) rfl (by first | omega | (simp only[List.length_set,List.length_replicate];omega))) rfl
 intro θ hall
 obtain⟨_,_,_,_,h4a,_,_,_,_,_,_,_,_,_⟩:=hall
 refine G.at [] 0 (env':=[(11,v1),(104,.int .i64 ((nF cr cd (smR cr cd i) (smR cr cd j))%p)),(105,elemPtr v1 1 ((fdI cr ((rSt cr cd).length) (rKvs cr cd) (lpF (smR cr cd i) 1 (smR cr cd j)):Int).toNat))]) ⟨rfl,rfl,rfl,trivial⟩ (own':=ints 3 ((θ 4).getD 0 undef) (lpF (smR cr cd i) 1 (smR cr cd j))::ints 3 v39 (lpF (smR cr cd i) 1 (smR cr cd j))::ints 3 v30 (lpF (smR cr cd i) 1 (smR cr cd j))::opA (decide (smM cr cd+cr.toNat≤i)) (ints 3 v14 (smR cr cd i))::opA (decide (smM cr cd+cr.toNat≤j)) (ints 3 v18 (smR cr cd j))::ints 3 v1 (List.replicate (smN cr cd) 0)::box gn 3 [.int .i64 (nn)]::box gr 64 [.int .i64 (cr),vcd,vL,.map (some gmp)]::box gc 27 [.int .i64 (cr),vcd]::box gh 3 [.int .i64 (hh)]::box gp 3 [.int .i64 (p)]::box gs 66 [.int .i64 (cr),vcd,vLz,.map (some gmq),.map (some gqp),.map (some gk)]::memA gk cr cd::own) rfl ?_
 have hs43:IsS ((θ 4).getD 0 undef):=h4a
 clear h4a
 generalize ((θ 4).getD 0 undef)=v44 at *
 show G _ _ _ [_] _ _ _ _
 refine G.stepD0 (OD.storeInt rfl ti3 rfl rfl (i:=5) rfl (by first | omega | (simp only[List.length_set,List.length_replicate];omega))) rfl rfl ?_
 refine Zn (GE.blockN (Zt (Zs (Zr ?_))))
 refine Zm rfl (Za rfl (Zn (Zt (GC.ret ?_))))
 exact GE.body [5,5,5,5,5,5,5,5] 5 (res1 rfl rfl) rfl (⟨v1,rfl,hs2,congrArg (fun(l0:List Int)=>ints 3 v1 l0::box gn 3 [.int .i64 (nn)]::box gr 64 [.int .i64 (cr),vcd,vL,.map (some gmp)]::box gc 27 [.int .i64 (cr),vcd]::box gh 3 [.int .i64 (hh)]::box gp 3 [.int .i64 (p)]::box gs 66 [.int .i64 (cr),vcd,vLz,.map (some gmq),.map (some gqp),.map (some gk)]::memA gk cr cd::own) ((row_N hS hHi hHj hi hj hc32 ((of_rt hS hri hrj).symm.trans hc40):(List.replicate (smN cr cd) 0).set ((fdI cr ((rSt cr cd).length) (rKvs cr cd) (lpF (smR cr cd i) 1 (smR cr cd j)):Int).toNat) ((nF cr cd (smR cr cd i) (smR cr cd j))%p)=rwF cr cd p i j))⟩)
 refine Zk (GE.blockN (Zt (Zs (Zr ?_))))
 refine Zm rfl (Za rfl (Zn (Zt (GC.ret ?_))))
 exact GE.body [4,4,4,4,4,4,4,4] 4 (res1 rfl rfl) rfl (⟨v1,rfl,hs2,congrArg (fun(l0:List Int)=>ints 3 v1 l0::box gn 3 [.int .i64 (nn)]::box gr 64 [.int .i64 (cr),vcd,vL,.map (some gmp)]::box gc 27 [.int .i64 (cr),vcd]::box gh 3 [.int .i64 (hh)]::box gp 3 [.int .i64 (p)]::box gs 66 [.int .i64 (cr),vcd,vLz,.map (some gmq),.map (some gqp),.map (some gk)]::memA gk cr cd::own) ((row_no hS hHi hHj hi hj hc32 ((of_rt hS hri hrj).symm.trans hc40):List.replicate (smN cr cd) 0=rwF cr cd p i j))⟩)
theorem tableBy_w {W:World}{own:List Asn}{pz:Int}{nz:Int}{gn gr gc gh gp gs gk:Nat}{nn hh p cr:Int}{vcd:Value}{cd:List Int}{vL:Value}{uL:List Value}{gmp:Nat}{vLz:Value}{uLz:List Value}{gmq:Nat}{gqp:Nat}(scd:IsS vcd)(ecd:Ent own fun w=>Ints w vcd cd)(sL:IsS vL)(eL:Ent own fun w=>Sl w vL (rSt cr cd).length 1 uL)(mL:∀ k,k<(rSt cr cd).length→Ent own fun w=>Ints w (uL.getD k undef) ((rSt cr cd).getD k []))(lL:uL.length=(rSt cr cd).length)(aL:AllS uL)(hmp:Ent own (MapIs keyL valI gmp (rKvs cr cd)))(sLz:IsS vLz)(eLz:Ent own fun w=>Sl w vLz (rSt cr cd).length 1 uLz)(mLz:∀ k,k<(rSt cr cd).length→Ent own fun w=>Ints w (uLz.getD k undef) ((rSt cr cd).getD k []))(lLz:uLz.length=(rSt cr cd).length)(aLz:AllS uLz)(hmq:Ent own (MapIs keyL valI gmq (rKvs cr cd)))(hqp:Ent own (MapIs keyL valI gqp (hfK cr cd)))(hS:(tyS cr cd).isSome=true)(hN:nn=(smN cr cd:Nat))(hH:hh=(smM cr cd:Nat))(h28:smN cr cd≤28)(hpp:1≤p∧p≤1000000)(htab:Ent own Pow10)(hpz:pz=p)(hnz:nz=(smN cr cd:Nat)):Spec Tryz.prog 62 [.int .i64 (pz),.int .i64 (nz),.func (.func 63) #[] #[.pointer (some ⟨gn,0,none⟩),.pointer (some ⟨gr,0,none⟩),.pointer (some ⟨gc,0,none⟩),.pointer (some ⟨gh,0,none⟩),.pointer (some ⟨gp,0,none⟩),.pointer (some ⟨gs,0,none⟩)]] W (box gn 3 [.int .i64 (nn)]::box gr 64 [.int .i64 (cr),vcd,vL,.map (some gmp)]::box gc 27 [.int .i64 (cr),vcd]::box gh 3 [.int .i64 (hh)]::box gp 3 [.int .i64 (p)]::box gs 66 [.int .i64 (cr),vcd,vLz,.map (some gmq),.map (some gqp),.map (some gk)]::memA gk cr cd::own) (fun v ow=>∃ (r2:Value),v = .agg #[.int .i64 (pz),.int .i64 (nz),r2]∧IsS r2∧ow=ints 3 r2 (stT cr cd p)::box gn 3 [.int .i64 (nn)]::box gr 64 [.int .i64 (cr),vcd,vL,.map (some gmp)]::box gc 27 [.int .i64 (cr),vcd]::box gh 3 [.int .i64 (hh)]::box gp 3 [.int .i64 (p)]::box gs 66 [.int .i64 (cr),vcd,vLz,.map (some gmq),.map (some gqp),.map (some gk)]::memA gk cr cd::own):=by
 have hcr:=(tyS_ok hS).1
 have hcd:=(tyS_ok hS).2
 have hMl:smM cr cd=(rSt cr cd).length:=rfl
 have hNl:smN cr cd=2*smM cr cd+cr.toNat:=rfl
 have hr4:=(rtOk hS).rk
 have hlo:=(rtOk hS).lo
 have hRf:(rSt cr cd).length≤30:=by have h1:=(rtOk hS).slen;have h2:=(rtOk hS).few;omega
 have hcu:=(cube_eq h28).2
 have hrl:=fun i j=>rwF_len (n:=cr) (d:=cd) (p:=p) i j
 refine Spec.enter Tryz.f62 _ Tryz.func62 rfl (n:=72) rfl rfl ?_
 refine Zs (Zr (G.step (OG.alloc rfl ti43 (zs:=[.int .i64 (0),.int .i64 (0),.slice none 0 0]) rfl) rfl rfl rfl ?_))
 rintro _ _ ⟨g1,rfl,rfl⟩
 refine Zn (Zt (Zs (Zr (Zm rfl (Zm rfl (Zm rfl (Zm rfl (Zd (OD.mul rfl rfl rfl) rfl ?_))))))))
 refine Zm rfl (Zd (OD.eqv (OD.mul rfl rfl rfl) (congrArg (Value.int .i64) ((by rw[hnz];exact(cube_eq h28).1):(IntKind.i64.wrap ((IntKind.i64.wrap (nz*nz))*nz):Int)=(((smN cr cd*smN cr cd*smN cr cd:Nat):Int))))) rfl ?_)
 refine G.step (OG.makeInts rfl et22 rfl rfl (by omega)) rfl rfl rfl ?_
 rintro v2 _ ⟨hs3,rfl⟩
 refine Zd (OD.build (idx:=[0,1,2]) (xs:=[.tmp 12,.tmp 13,.tmp 19]) (vs:=[.int .i64 (pz),.int .i64 (nz),v2]) (cs:=[[.int .i64 (pz)],[.int .i64 (nz)],[v2]]) (zs:=[.int .i64 (0),.int .i64 (0),.slice none 0 0]) (r:=[.int .i64 (pz),.int .i64 (nz),v2]) rfl ti43 rfl rfl rfl ⟨rfl,⟨rfl,⟨(one_cells (IsS.one hs3)),trivial⟩⟩⟩ rfl) rfl ?_
 refine G.step (OG.alloc rfl ti43 (zs:=[.int .i64 (0),.int .i64 (0),.slice none 0 0]) rfl) rfl rfl rfl ?_
 rintro _ _ ⟨g4,rfl,rfl⟩
 refine G.stepD0 (OD.store rfl ti43 rfl rfl (us:=[.int .i64 (pz),.int .i64 (nz),v2]) rfl rfl (allC rfl (allC rfl (allC (IsS.one hs3) rfl))) (i:=0) rfl rfl) rfl rfl ?_
 refine Zn (Zt (Zs (Zs ?_)))
 refine GC.ownEq (own':=box g4 43 [.int .i64 (pz),.int .i64 (nz),v2]::ints 3 v2 (List.replicate (smN cr cd*smN cr cd*smN cr cd) 0)::box g1 43 [.int .i64 (0),.int .i64 (0),.slice none 0 0]::box gn 3 [.int .i64 (nn)]::box gr 64 [.int .i64 (cr),vcd,vL,.map (some gmp)]::box gc 27 [.int .i64 (cr),vcd]::box gh 3 [.int .i64 (hh)]::box gp 3 [.int .i64 (p)]::box gs 66 [.int .i64 (cr),vcd,vLz,.map (some gmq),.map (some gqp),.map (some gk)]::memA gk cr cd::own) (rfl) ?_
 refine Zr (Zm rfl (Zm rfl (Zn (Zt (GC.block ?_)))))
 refine GC.loop (ι:=Nat × List Int) (fun⟨i,ys⟩=>[(0,.int .i64 (pz)),(1,.int .i64 (nz)),(2,.func (.func 63) #[] #[.pointer (some ⟨gn,0,none⟩),.pointer (some ⟨gr,0,none⟩),.pointer (some ⟨gc,0,none⟩),.pointer (some ⟨gh,0,none⟩),.pointer (some ⟨gp,0,none⟩),.pointer (some ⟨gs,0,none⟩)]),(6,.pointer (some ⟨g1,0,none⟩)),(7,.pointer (some ⟨g4,0,none⟩)),(21,.int .i64 (nz)),(22,.int .i64 ((i:Int)))]) (fun⟨i,ys⟩=>box g4 43 [.int .i64 (pz),.int .i64 (nz),v2]::ints 3 v2 ys::box g1 43 [.int .i64 (0),.int .i64 (0),.slice none 0 0]::box gn 3 [.int .i64 (nn)]::box gr 64 [.int .i64 (cr),vcd,vL,.map (some gmp)]::box gc 27 [.int .i64 (cr),vcd]::box gh 3 [.int .i64 (hh)]::box gp 3 [.int .i64 (p)]::box gs 66 [.int .i64 (cr),vcd,vLz,.map (some gmq),.map (some gqp),.map (some gk)]::memA gk cr cd::own) (fun⟨i,ys⟩=>(i≤smN cr cd)∧(TbI cr cd p i 0 0 ys)) (fun⟨i,ys⟩=>smN cr cd - i) (0,List.replicate (smN cr cd*smN cr cd*smN cr cd) 0) (⟨by omega,TbI.new⟩) ⟨rfl,rfl,rfl,rfl,rfl,rfl,rfl,trivial⟩ [] 0 rfl ?_
 rintro⟨i,ys⟩ ⟨hi,hT0⟩
 refine Zs (Zr (Zd (OD.lss rfl rfl rfl) rfl ?_))
 refine Zn (Zt (Zs ?_))
 refine GC.cond rfl (fun hc5=>?_) (fun hc5=>?_)
 replace hc5:=of_decide_eq_true hc5
 refine Zk (Zt (Zs (GC.block (Zs (Zr ?_)))))
 refine Zm rfl (Za rfl (Zn (Zt (Zs (Zr (Zm rfl (Zm rfl (Zn (Zt (GC.block ?_))))))))))
 refine GC.loop (ι:=Nat × List Int) (fun⟨j,zs⟩=>[(0,.int .i64 (pz)),(1,.int .i64 (nz)),(2,.func (.func 63) #[] #[.pointer (some ⟨gn,0,none⟩),.pointer (some ⟨gr,0,none⟩),.pointer (some ⟨gc,0,none⟩),.pointer (some ⟨gh,0,none⟩),.pointer (some ⟨gp,0,none⟩),.pointer (some ⟨gs,0,none⟩)]),(6,.pointer (some ⟨g1,0,none⟩)),(7,.pointer (some ⟨g4,0,none⟩)),(21,.int .i64 (nz)),(22,.int .i64 ((i:Int))),(8,.int .i64 ((i:Int))),(25,.int .i64 ((i:Int))),(26,.int .i64 ((j:Int)))]) (fun⟨j,zs⟩=>box g4 43 [.int .i64 (pz),.int .i64 (nz),v2]::ints 3 v2 zs::box g1 43 [.int .i64 (0),.int .i64 (0),.slice none 0 0]::box gn 3 [.int .i64 (nn)]::box gr 64 [.int .i64 (cr),vcd,vL,.map (some gmp)]::box gc 27 [.int .i64 (cr),vcd]::box gh 3 [.int .i64 (hh)]::box gp 3 [.int .i64 (p)]::box gs 66 [.int .i64 (cr),vcd,vLz,.map (some gmq),.map (some gqp),.map (some gk)]::memA gk cr cd::own) (fun⟨j,zs⟩=>(j≤i)∧(TbI cr cd p i j 0 zs)) (fun⟨j,zs⟩=>i - j) (0,ys) (⟨by omega,hT0⟩) ⟨rfl,rfl,rfl,rfl,rfl,rfl,rfl,rfl,rfl,rfl,trivial⟩ [] 0 rfl ?_
 rintro⟨j,zs⟩ ⟨hj,hT1⟩
 refine Zs (Zr (Zd (OD.lss rfl rfl rfl) rfl ?_))
 refine Zn (Zt (Zs ?_))
 refine GC.cond rfl (fun hc6=>?_) (fun hc6=>?_)
 replace hc6:=of_decide_eq_true hc6
 refine Zk (Zt (Zs (GC.block (Zs (Zr ?_)))))
 refine Zm rfl (Za rfl (Zn (Zt (Zs (Zr (Zm rfl (Zm rfl (Zm rfl ?_))))))))
 refine G.at [3,3,3,3,3,3,3] 0 (env':=[(0,.int .i64 (pz)),(1,.int .i64 (nz)),(2,.func (.func 63) #[] #[.pointer (some ⟨gn,0,none⟩),.pointer (some ⟨gr,0,none⟩),.pointer (some ⟨gc,0,none⟩),.pointer (some ⟨gh,0,none⟩),.pointer (some ⟨gp,0,none⟩),.pointer (some ⟨gs,0,none⟩)]),(6,.pointer (some ⟨g1,0,none⟩)),(7,.pointer (some ⟨g4,0,none⟩)),(21,.int .i64 (nz)),(22,.int .i64 ((i:Int))),(8,.int .i64 ((i:Int))),(25,.int .i64 ((i:Int))),(26,.int .i64 ((j:Int))),(27,.bool (decide ((j:Int)<(i:Int)))),(28,.int .i64 ((j:Int))),(9,.int .i64 ((j:Int))),(29,.func (.func 63) #[] #[.pointer (some ⟨gn,0,none⟩),.pointer (some ⟨gr,0,none⟩),.pointer (some ⟨gc,0,none⟩),.pointer (some ⟨gh,0,none⟩),.pointer (some ⟨gp,0,none⟩),.pointer (some ⟨gs,0,none⟩)]),(30,.int .i64 ((i:Int))),(31,.int .i64 ((j:Int)))]) ⟨rfl,rfl,rfl,rfl,rfl,rfl,rfl,rfl,rfl,rfl,rfl,rfl,rfl,rfl,rfl,rfl,trivial⟩ (own':=box gn 3 [.int .i64 (nn)]::box gr 64 [.int .i64 (cr),vcd,vL,.map (some gmp)]::box gc 27 [.int .i64 (cr),vcd]::box gh 3 [.int .i64 (hh)]::box gp 3 [.int .i64 (p)]::box gs 66 [.int .i64 (cr),vcd,vLz,.map (some gmq),.map (some gqp),.map (some gk)]::memA gk cr cd::box g4 43 [.int .i64 (pz),.int .i64 (nz),v2]::ints 3 v2 zs::box g1 43 [.int .i64 (0),.int .i64 (0),.slice none 0 0]::own) rfl ?_
 refine G.step (OG.call [.int .i64 ((i:Int)),.int .i64 ((j:Int)),.pointer (some ⟨gn,0,none⟩),.pointer (some ⟨gr,0,none⟩),.pointer (some ⟨gc,0,none⟩),.pointer (some ⟨gh,0,none⟩),.pointer (some ⟨gp,0,none⟩),.pointer (some ⟨gs,0,none⟩)] ent63 rfl rfl rfl rfl (by exact(row_w scd (Ent.drop 3 ecd) sL (Ent.drop 3 eL) (fun k hk=>(Ent.drop 3 (mL k hk))) lL aL (Ent.drop 3 hmp) sLz (Ent.drop 3 eLz) (fun k hk=>(Ent.drop 3 (mLz k hk))) lLz aLz (Ent.drop 3 hmq) (Ent.drop 3 hqp) (hS) (hN) (hH) (h28) (hpp) ((Ent.drop 3 htab)) (by omega) (by omega)))) rfl rfl rfl ?_
 rintro v7 _ ⟨_,rfl,hs8,rfl⟩
 refine Zd (OD.len rfl rfl et22 rfl (Ent.ints (i:=0) rfl)) rfl ?_
 refine Zm rfl (Zn (Zt (GC.block ?_)))
 refine GC.loop (ι:=Nat × List Int) (fun⟨k,us⟩=>[(0,.int .i64 (pz)),(1,.int .i64 (nz)),(2,.func (.func 63) #[] #[.pointer (some ⟨gn,0,none⟩),.pointer (some ⟨gr,0,none⟩),.pointer (some ⟨gc,0,none⟩),.pointer (some ⟨gh,0,none⟩),.pointer (some ⟨gp,0,none⟩),.pointer (some ⟨gs,0,none⟩)]),(6,.pointer (some ⟨g1,0,none⟩)),(7,.pointer (some ⟨g4,0,none⟩)),(21,.int .i64 (nz)),(22,.int .i64 ((i:Int))),(8,.int .i64 ((i:Int))),(25,.int .i64 ((i:Int))),(26,.int .i64 ((j:Int))),(9,.int .i64 ((j:Int))),(32,v7),(33,.int .i64 (((rwF cr cd p i j).length:Nat))),(34,.int .i64 ((k:Int)))]) (fun⟨k,us⟩=>ints 3 v7 (rwF cr cd p i j)::box gn 3 [.int .i64 (nn)]::box gr 64 [.int .i64 (cr),vcd,vL,.map (some gmp)]::box gc 27 [.int .i64 (cr),vcd]::box gh 3 [.int .i64 (hh)]::box gp 3 [.int .i64 (p)]::box gs 66 [.int .i64 (cr),vcd,vLz,.map (some gmq),.map (some gqp),.map (some gk)]::memA gk cr cd::box g4 43 [.int .i64 (pz),.int .i64 (nz),v2]::ints 3 v2 us::box g1 43 [.int .i64 (0),.int .i64 (0),.slice none 0 0]::own) (fun⟨k,us⟩=>(k≤smN cr cd)∧(TbI cr cd p i j k us)) (fun⟨k,us⟩=>smN cr cd - k) (0,zs) (⟨by omega,hT1⟩) ⟨rfl,rfl,rfl,rfl,rfl,rfl,rfl,rfl,rfl,rfl,rfl,rfl,rfl,rfl,trivial⟩ [] 0 rfl ?_
 rintro⟨k,us⟩ ⟨hk,hT2⟩
 refine Zs ?_
 have hrlk:=hrl i j
 refine Zr (Zd (OD.lss rfl rfl rfl) rfl ?_)
 refine Zn (Zt (Zs ?_))
 refine GC.cond rfl (fun hc9=>?_) (fun hc9=>?_)
 replace hc9:=of_decide_eq_true hc9
 refine Zk (Zt (Zs (GC.block (Zs (Zr ?_)))))
 refine Zm rfl (Zd (OD.indexAddr rfl et22 rfl (Ent.ints (i:=0) rfl) rfl (by omega)) rfl ?_)
 refine Zd (OD.loadInt rfl ti3 rfl (Ent.ints (i:=0) rfl) (by omega)) rfl ?_
 refine Za rfl (Za rfl (Zn (Zt (Zs ?_))))
 obtain⟨q1,hq1⟩:∃ q1:Nat,q1=(i*smN cr cd+j)*smN cr cd+k:=⟨_,rfl⟩
 obtain⟨q2,hq2⟩:∃ q2:Nat,q2=(j*smN cr cd+i)*smN cr cd+k:=⟨_,rfl⟩
 obtain⟨hqe1,hql1⟩:=at3 h28 (show i<smN cr cd by omega) (show j<smN cr cd by omega) (show k<smN cr cd by omega) hq1
 obtain⟨hqe2,hql2⟩:=at3 h28 (show j<smN cr cd by omega) (show i<smN cr cd by omega) (show k<smN cr cd by omega) hq2
 have hul:=hT2.len
 have hrb:=rw_bd (n:=cr) (d:=cd) (p:=p) (i:=i) (j:=j) (k:=k) (by omega)
 have hrb2:0≤(rwF cr cd p i j).getD ((k:Int)).toNat 0∧(rwF cr cd p i j).getD ((k:Int)).toNat 0<p:=hrb
 refine Zr (Zd (OD.fieldAddr rfl rfl fa43_2) rfl ?_)
 refine Zd (OD.load rfl ti22 rfl (i:=8) rfl rfl) rfl ?_
 refine Zm rfl (Zm rfl (Zd (OD.mul rfl rfl rfl) rfl ?_))
 refine Zm rfl (Zd (OD.add rfl rfl rfl) rfl ?_)
 refine Zm rfl (Zd (OD.mul rfl rfl rfl) rfl ?_)
 refine Zm rfl (Zd (OD.eqv (OD.add rfl rfl rfl) (congrArg (Value.int .i64) ((by rw[hnz];exact hqe1):(IntKind.i64.wrap ((IntKind.i64.wrap ((IntKind.i64.wrap ((IntKind.i64.wrap ((i:Int)*nz))+(j:Int)))*nz))+(k:Int)):Int)=((q1:Int))))) rfl ?_)
 refine Zm rfl (Zd (OD.indexAddr rfl et22 rfl (Ent.ints (i:=9) rfl) rfl (by omega)) rfl ?_)
 refine G.stepD0 (OD.storeInt rfl ti3 rfl rfl (i:=9) rfl (by omega)) rfl rfl ?_
 refine Zn (Zt ?_)
 refine GC.at [] 0 (env':=[(0,.int .i64 (pz)),(1,.int .i64 (nz)),(2,.func (.func 63) #[] #[.pointer (some ⟨gn,0,none⟩),.pointer (some ⟨gr,0,none⟩),.pointer (some ⟨gc,0,none⟩),.pointer (some ⟨gh,0,none⟩),.pointer (some ⟨gp,0,none⟩),.pointer (some ⟨gs,0,none⟩)]),(6,.pointer (some ⟨g1,0,none⟩)),(7,.pointer (some ⟨g4,0,none⟩)),(21,.int .i64 (nz)),(22,.int .i64 ((i:Int))),(8,.int .i64 ((i:Int))),(25,.int .i64 ((i:Int))),(26,.int .i64 ((j:Int))),(9,.int .i64 ((j:Int))),(32,v7),(33,.int .i64 (((rwF cr cd p i j).length:Nat))),(34,.int .i64 ((k:Int))),(10,.int .i64 ((k:Int))),(11,.int .i64 ((rwF cr cd p i j).getD (k) 0))]) ⟨rfl,rfl,rfl,rfl,rfl,rfl,rfl,rfl,rfl,rfl,rfl,rfl,rfl,rfl,rfl,rfl,trivial⟩ rfl ?_
 refine GC.par (its:=[Z0 52 (.pointer (some ⟨g4,2,none⟩)),
     Z1 53 [(0,52)] v2,
     Z0 54 (.int .i64 ((j:Int))),
     Z0 55 (.int .i64 (nz)),
     Z1 56 [(2,54),(3,55)] (.int .i64 (IntKind.i64.wrap ((j:Int)*nz))),
     Z0 57 (.int .i64 ((i:Int))),
     Z1 58 [(4,56),(5,57)] (.int .i64 (IntKind.i64.wrap ((IntKind.i64.wrap ((j:Int)*nz))+(i:Int)))),
     Z0 59 (.int .i64 (nz)),
     Z1 60 [(6,58),(7,59)] (.int .i64 (IntKind.i64.wrap ((IntKind.i64.wrap ((IntKind.i64.wrap ((j:Int)*nz))+(i:Int)))*nz))),
     Z0 61 (.int .i64 ((k:Int))),
     Z1 62 [(8,60),(9,61)] (.int .i64 ((q2:Int))),
     Z0 63 (.int .i64 ((rwF cr cd p i j).getD (k) 0)),
     Z1 64 [(11,63)] (.int .i64 (0 - (rwF cr cd p i j).getD (k) 0)),
     Z0 65 (.int .i64 (pz)),
     Z1 66 [(12,64),(13,65)] (.int .i64 ((0 - (rwF cr cd p i j).getD (k) 0)%pz)),
     Z1 67 [(1,53),(10,62)] (elemPtr v2 1 (q2))]) (by kernel_rfl) (by kernel_rfl) (Zc ?_ (Zc ?_ (Zc ?_ (Zc ?_ (Zc ?_ (Zc ?_ (Zc ?_ (Zc ?_ (Zc ?_ (Zc ?_ (Zc ?_ (Zc ?_ (Zc ?_ (Zc ?_ (Zc ?_ (Zc ?_ POps.nil)))))))))))))))) ?_
 exact fun θ R hd=>Zq (OD.fieldAddr rfl rfl fa43_2) rfl
 exact fun θ R ⟨h0d,_⟩=>Zq (OD.load rfl ti22 rfl (i:=8) rfl rfl) rfl
 exact fun θ R hd=>Zq (OD.move rfl rfl) rfl
 exact fun θ R hd=>Zq (OD.move rfl rfl) rfl
 exact fun θ R ⟨h2d,h3d,_⟩=>Zq (OD.mul rfl rfl rfl) rfl
 exact fun θ R hd=>Zq (OD.move rfl rfl) rfl
 exact fun θ R ⟨h4d,h5d,_⟩=>Zq (OD.add rfl rfl rfl) rfl
 exact fun θ R hd=>Zq (OD.move rfl rfl) rfl
 exact fun θ R ⟨h6d,h7d,_⟩=>Zq (OD.mul rfl rfl rfl) rfl
 exact fun θ R hd=>Zq (OD.move rfl rfl) rfl
 exact fun θ R ⟨h8d,h9d,_⟩=>Zq (OD.eqv (OD.add rfl rfl rfl) (congrArg (Value.int .i64) ((by rw[hnz];exact hqe2):(IntKind.i64.wrap ((IntKind.i64.wrap ((IntKind.i64.wrap ((IntKind.i64.wrap ((j:Int)*nz))+(i:Int)))*nz))+(k:Int)):Int)=((q2:Int))))) rfl
 exact fun θ R hd=>Zq (OD.move rfl rfl) rfl
 exact fun θ R ⟨h11d,_⟩=>Zq (OD.negI rfl rfl (by first | omega | (simp only[List.length_set,List.length_replicate];omega))) rfl
 exact fun θ R hd=>Zq (OD.move rfl rfl) rfl
 exact fun θ R ⟨h12d,h13d,_⟩=>Zq (OG.call [.int .i64 (0 - (rwF cr cd p i j).getD (k) 0),.int .i64 (pz)] ent65 rfl rfl rfl rfl (by exact(mod_s (by omega)))) rfl
 exact fun θ R ⟨h1d,h10d,_⟩=>Zq (OD.indexAddr rfl et22 rfl (Ent.ints (i:=9) rfl) rfl (by first | omega | (simp only[List.length_set,List.length_replicate];omega))) rfl
 intro θ hall
 obtain⟨_,_,_,_,_,_,_,_,_,_,_,_,_,_,_,_,_⟩:=hall
 refine G.at [] 0 (env':=[(0,.int .i64 (pz)),(1,.int .i64 (nz)),(2,.func (.func 63) #[] #[.pointer (some ⟨gn,0,none⟩),.pointer (some ⟨gr,0,none⟩),.pointer (some ⟨gc,0,none⟩),.pointer (some ⟨gh,0,none⟩),.pointer (some ⟨gp,0,none⟩),.pointer (some ⟨gs,0,none⟩)]),(6,.pointer (some ⟨g1,0,none⟩)),(7,.pointer (some ⟨g4,0,none⟩)),(21,.int .i64 (nz)),(22,.int .i64 ((i:Int))),(8,.int .i64 ((i:Int))),(25,.int .i64 ((i:Int))),(26,.int .i64 ((j:Int))),(9,.int .i64 ((j:Int))),(32,v7),(33,.int .i64 (((rwF cr cd p i j).length:Nat))),(34,.int .i64 ((k:Int))),(66,.int .i64 ((0 - (rwF cr cd p i j).getD (k) 0)%pz)),(67,elemPtr v2 1 (q2))]) ⟨rfl,rfl,rfl,rfl,rfl,rfl,rfl,rfl,rfl,rfl,rfl,rfl,rfl,rfl,rfl,rfl,trivial⟩ (own':=ints 3 v7 (rwF cr cd p i j)::box gn 3 [.int .i64 (nn)]::box gr 64 [.int .i64 (cr),vcd,vL,.map (some gmp)]::box gc 27 [.int .i64 (cr),vcd]::box gh 3 [.int .i64 (hh)]::box gp 3 [.int .i64 (p)]::box gs 66 [.int .i64 (cr),vcd,vLz,.map (some gmq),.map (some gqp),.map (some gk)]::memA gk cr cd::box g4 43 [.int .i64 (pz),.int .i64 (nz),v2]::ints 3 v2 ((us).set (q1) ((rwF cr cd p i j).getD (k) 0))::box g1 43 [.int .i64 (0),.int .i64 (0),.slice none 0 0]::own) rfl ?_
 show G _ _ _ [_] _ _ _ _
 refine G.stepD0 (OD.storeInt rfl ti3 rfl rfl (i:=9) rfl (by first | omega | (simp only[List.length_set,List.length_replicate];omega))) rfl rfl ?_
 refine Zn (GE.blockN (Zt (Zr ?_)))
 refine Zd (OD.addI rfl rfl rfl (by first | omega | (simp only[List.length_set,List.length_replicate];omega))) rfl ?_
 exact Zm rfl (Zn (GE.again (k+1,((us).set (q1) ((rwF cr cd p i j).getD (k) 0)).set (q2) ((0 - (rwF cr cd p i j).getD (k) 0)%pz)) (⟨by omega,hT2.stepq hS (by omega) (by omega) (by omega) hq1 hq2 (rwF_get (by omega)) (by rw[hpz])⟩) (by first | omega | (dsimp only;omega)) ⟨rfl,rfl,rfl,rfl,rfl,rfl,rfl,rfl,rfl,rfl,rfl,rfl,rfl,rfl,trivial⟩ [] 0 rfl))
 replace hc9:=of_decide_eq_false hc9
 refine GC.exit (Zp (Zp (GE.hit (GE.blockN (Zt (Zr ?_))))))
 refine Zd (OD.addI rfl rfl rfl (by omega)) rfl ?_
 exact Zm rfl (Zn (GE.again (j+1,us) (⟨by omega,TbI.next ((show k=smN cr cd by omega) ▸ hT2)⟩) (by first | omega | (dsimp only;omega)) ⟨rfl,rfl,rfl,rfl,rfl,rfl,rfl,rfl,rfl,rfl,trivial⟩ [8,8,8,1,1,1,1,1,1,1] 1 rfl))
 replace hc6:=of_decide_eq_false hc6
 refine GC.exit (Zp (Zp (GE.hit (GE.blockN (Zt (Zr ?_))))))
 refine Zd (OD.addI rfl rfl rfl (by omega)) rfl ?_
 exact Zm rfl (Zn (GE.again (i+1,zs) (⟨by omega,TbI.row hS (by omega) ((show j=i by omega) ▸ hT1)⟩) (by first | omega | (dsimp only;omega)) ⟨rfl,rfl,rfl,rfl,rfl,rfl,rfl,trivial⟩ [] 0 rfl))
 replace hc5:=of_decide_eq_false hc5
 refine GC.exit (Zp (Zp (GE.hit (Zt (Zs (Zr ?_))))))
 refine Zd (OD.loadAgg rfl ti43 rfl (i:=0) rfl (us:=[.int .i64 (pz),.int .i64 (nz),v2]) rfl rfl) rfl ?_
 refine G.stepD0 (OD.store rfl ti43 rfl rfl (us:=[.int .i64 (pz),.int .i64 (nz),v2]) rfl rfl (allC rfl (allC rfl (allC (IsS.one hs3) rfl))) (i:=2) rfl rfl) rfl rfl ?_
 refine Zn (Zt (GC.ret ?_))
 exact GE.body [1,2,2,2,2,2,2,2] 2 (resN rfl (RVs.cons (rv_cells ti43 rfl (i:=2) rfl rfl) RVs.nil) rfl) rfl (⟨v2,rfl,hs3,congrArg (fun(l0:List Int)=>ints 3 v2 l0::box gn 3 [.int .i64 (nn)]::box gr 64 [.int .i64 (cr),vcd,vL,.map (some gmp)]::box gc 27 [.int .i64 (cr),vcd]::box gh 3 [.int .i64 (hh)]::box gp 3 [.int .i64 (p)]::box gs 66 [.int .i64 (cr),vcd,vLz,.map (some gmq),.map (some gqp),.map (some gk)]::memA gk cr cd::own) ((TbI.end_ ((show i=smN cr cd by omega) ▸ hT0):ys=stT cr cd p))⟩)
theorem simpleTable_w {W:World}{own:List Asn}{cr:Int}{vcd:Value}{cd:List Int}{p:Int}(scd:IsS vcd)(ecd:Ent own fun w=>Ints w vcd cd)(hl0:cd.length≤1073741824)(hg:Ent own fun w=>∃ m,w.cell? ⟨Tryz.l146_ren.g 1,0,none⟩=some (.int .i64 m))(htab:Ent own Pow10):Spec Tryz.prog 24 [.agg #[.int .i64 (cr),vcd],.int .i64 (p)] W own (fun v ow=>∃ (r2:Value),v = .tuple #[.agg #[.int .i64 (smAp cr cd p),.int .i64 (smAn cr cd p),r2],.bool (smOk cr cd p)]∧IsS r2∧ow=ints 3 r2 (smAd cr cd p)::own):=by
 refine Spec.enter Tryz.f24 _ Tryz.func24 rfl (n:=40) rfl rfl ?_
 refine Zs (Zr (G.step (OG.box (cs:=[.int .i64 (cr),vcd]) rfl rfl rfl) rfl rfl rfl ?_))
 rintro _ _ ⟨g1,rfl,rfl⟩
 refine G.step (OG.box (cs:=[.int .i64 (p)]) rfl rfl rfl) rfl rfl rfl ?_
 rintro _ _ ⟨g2,rfl,rfl⟩
 refine G.step (OG.alloc rfl ti43 (zs:=[.int .i64 (0),.int .i64 (0),.slice none 0 0]) rfl) rfl rfl rfl ?_
 rintro _ _ ⟨g3,rfl,rfl⟩
 refine Za rfl (Zn (Zt (Zs (Zs (Zr (Zd (OD.loadAgg rfl ti27 rfl (i:=2) rfl (us:=[.int .i64 (cr),vcd]) rfl rfl) rfl ?_))))))
 refine G.step (OG.call [.agg #[.int .i64 (cr),vcd]] ent50 rfl rfl rfl rfl (by exact(isCartan_w scd (Ent.drop 3 ecd) (hl0) ((Ent.drop 3 hg))))) rfl rfl rfl ?_
 rintro _ _ ⟨rfl,rfl⟩
 refine Zd (OD.not rfl rfl) rfl ?_
 refine Zm rfl ?_
 rcases Bool.eq_false_or_eq_true (!((tyS cr cd).isSome)) with hg4 | hg4
 have hg4e:=hg4
 refine G.at [] 0 (env':=[(0,.agg #[.int .i64 (cr),vcd]),(1,.int .i64 (p)),(2,.pointer (some ⟨g1,0,none⟩)),(3,.pointer (some ⟨g2,0,none⟩)),(4,.pointer (some ⟨g3,0,none⟩)),(5,.bool false),(10,.agg #[.int .i64 (cr),vcd]),(11,.bool ((tyS cr cd).isSome)),(12,.bool true),(13,.bool true)]) (⟨rfl,rfl,rfl,rfl,rfl,rfl,rfl,rfl,(congrArg (fun b=>some (Value.bool b)) hg4e),(congrArg (fun b=>some (Value.bool b)) hg4e),trivial⟩) rfl ?_
 replace hg4:=eq_false_of_not hg4
 refine G.skipG rfl rfl rfl rfl rfl rfl (G.skipG rfl rfl rfl rfl rfl rfl (G.skipG rfl rfl rfl rfl rfl rfl ?_))
 refine Zd (OD.pickT rfl rfl rfl) rfl ?_
 refine Zn (Zt (GC.condT rfl (Zs (Zr ?_))))
 refine Zd (OD.build (idx:=[]) (xs:=[]) (vs:=[]) (cs:=[]) (zs:=[.int .i64 (0),.int .i64 (0),.slice none 0 0]) (r:=[.int .i64 (0),.int .i64 (0),.slice none 0 0]) rfl ti43 rfl rfl rfl trivial rfl) rfl ?_
 refine G.stepD0 (OD.store rfl ti43 rfl rfl (us:=[.int .i64 (0),.int .i64 (0),.slice none 0 0]) rfl rfl rfl (i:=0) rfl rfl) rfl rfl ?_
 refine Za rfl (Zn (Zt (GC.ret (GE.passR ?_))))
 refine GE.nilInts 3 ?_
 exact GE.body [0] 3 (resN rfl (RVs.cons (rv_cells ti43 rfl (i:=1) rfl rfl) (RVs.cons (rv_tmp rfl) RVs.nil)) rfl) rfl (⟨(.slice none 0 0),congr (congr (congrArg (fun(a0:Int) (a1:Int) (a3:Bool)=>(.tuple #[.agg #[.int .i64 (a0),.int .i64 (a1),(.slice none 0 0)],.bool (a3)]:Value)) ((by rw[smAp,(show smOk cr cd p=false by simp[smOk,hg4])] <;> rfl:(0:Int)=smAp cr cd p))) ((by rw[smAn,(show smOk cr cd p=false by simp[smOk,hg4])] <;> rfl:(0:Int)=smAn cr cd p))) (((show smOk cr cd p=false by simp[smOk,hg4]).symm:(false:Bool)=smOk cr cd p)),IsS.nil,congrArg (fun(l0:List Int)=>ints 3 (.slice none 0 0) l0::own) ((by rw[smAd,(show smOk cr cd p=false by simp[smOk,hg4])] <;> rfl : []=smAd cr cd p))⟩)
 have hg4e:=hg4
 refine G.at [] 0 (env':=[(0,.agg #[.int .i64 (cr),vcd]),(1,.int .i64 (p)),(2,.pointer (some ⟨g1,0,none⟩)),(3,.pointer (some ⟨g2,0,none⟩)),(4,.pointer (some ⟨g3,0,none⟩)),(5,.bool false),(10,.agg #[.int .i64 (cr),vcd]),(11,.bool ((tyS cr cd).isSome)),(12,.bool false),(13,.bool false)]) (⟨rfl,rfl,rfl,rfl,rfl,rfl,rfl,rfl,(congrArg (fun b=>some (Value.bool b)) hg4e),(congrArg (fun b=>some (Value.bool b)) hg4e),trivial⟩) rfl ?_
 replace hg4:=eq_true_of_not hg4
 refine G.stepGD (OD.load rfl ti3 rfl (i:=1) rfl rfl) rfl rfl rfl rfl rfl ?_
 refine G.stepG (OG.call [.int .i64 (p)] ent61 rfl rfl rfl rfl (by exact isPrime_s)) rfl rfl rfl rfl rfl ?_
 rintro _ _ ⟨rfl,rfl⟩
 refine G.stepGD (OD.not rfl rfl) rfl rfl rfl rfl rfl ?_
 refine Zd (OD.pickF rfl rfl rfl) rfl ?_
 refine Zn (Zt ?_)
 refine GC.cond rfl (fun hc5=>?_) (fun hc5=>?_)
 replace hc5:=eq_false_of_not hc5
 refine Zs (Zr (Zd (OD.build (idx:=[]) (xs:=[]) (vs:=[]) (cs:=[]) (zs:=[.int .i64 (0),.int .i64 (0),.slice none 0 0]) (r:=[.int .i64 (0),.int .i64 (0),.slice none 0 0]) rfl ti43 rfl rfl rfl trivial rfl) rfl ?_))
 refine G.stepD0 (OD.store rfl ti43 rfl rfl (us:=[.int .i64 (0),.int .i64 (0),.slice none 0 0]) rfl rfl rfl (i:=0) rfl rfl) rfl rfl ?_
 refine Za rfl (Zn (Zt (GC.ret (GE.passR ?_))))
 refine GE.nilInts 3 ?_
 exact GE.body [0] 3 (resN rfl (RVs.cons (rv_cells ti43 rfl (i:=1) rfl rfl) (RVs.cons (rv_tmp rfl) RVs.nil)) rfl) rfl (⟨(.slice none 0 0),congr (congr (congrArg (fun(a0:Int) (a1:Int) (a3:Bool)=>(.tuple #[.agg #[.int .i64 (a0),.int .i64 (a1),(.slice none 0 0)],.bool (a3)]:Value)) ((by rw[smAp,(show smOk cr cd p=false by simp[smOk,hg4,hc5])] <;> rfl:(0:Int)=smAp cr cd p))) ((by rw[smAn,(show smOk cr cd p=false by simp[smOk,hg4,hc5])] <;> rfl:(0:Int)=smAn cr cd p))) (((show smOk cr cd p=false by simp[smOk,hg4,hc5]).symm:(false:Bool)=smOk cr cd p)),IsS.nil,congrArg (fun(l0:List Int)=>ints 3 (.slice none 0 0) l0::own) ((by rw[smAd,(show smOk cr cd p=false by simp[smOk,hg4,hc5])] <;> rfl : []=smAd cr cd p))⟩)
 replace hc5:=eq_true_of_not hc5
 have hS:=hg4
 have hPr:=hc5
 have hpr:=primeB_range hPr
 have hcr:=(tyS_ok hS).1
 have hcd:=(tyS_ok hS).2
 have hMl:smM cr cd=(rSt cr cd).length:=rfl
 have hNl:smN cr cd=2*smM cr cd+cr.toNat:=rfl
 have hr4:=(rtOk hS).rk
 have hlo:=(rtOk hS).lo
 have hRf:(rSt cr cd).length≤30:=by have h1:=(rtOk hS).slen;have h2:=(rtOk hS).few;omega
 refine Zk (Zt (Zs (Zr (Zd (OD.loadAgg rfl ti27 rfl (i:=2) rfl (us:=[.int .i64 (cr),vcd]) rfl rfl) rfl ?_))))
 refine G.step (OG.call [.agg #[.int .i64 (cr),vcd]] ent51 rfl rfl rfl rfl (by exact(newRoots_w scd (Ent.drop 3 ecd) (hcr) (hcd) (hS) ((Ent.drop 3 htab))))) rfl rfl rfl ?_
 rintro _ _ ⟨v6,u7,g11,rfl,hs8,hs9,hs10,rfl⟩
 refine G.step (OG.alloc rfl ti64 (zs:=[.int .i64 (0),.slice none 0 0,.slice none 0 0,.map none]) rfl) rfl rfl rfl ?_
 rintro _ _ ⟨g12,rfl,rfl⟩
 refine G.stepD0 (OD.store rfl ti64 rfl rfl (us:=[.int .i64 (cr),vcd,v6,.map (some g11)]) rfl rfl (allC rfl (allC (IsS.one scd) (allC (IsS.one hs8) (allC rfl rfl)))) (i:=0) rfl rfl) rfl rfl ?_
 refine Zn (Zt (Zs (Zr (Zd (OD.fieldAddr rfl rfl fa64_1) rfl ?_))))
 refine Zd (OD.load rfl ti60 rfl (i:=0) rfl rfl) rfl ?_
 refine Zd (OD.len rfl rfl et60 rfl (Ent.lst (i:=1) rfl)) rfl ?_
 refine Zd (OD.mulI rfl rfl rfl (by omega)) rfl ?_
 refine Zd (OD.fieldAddr rfl rfl fa27_0) rfl ?_
 refine Zd (OD.load rfl ti3 rfl (i:=6) rfl rfl) rfl ?_
 refine Zd (OD.addI rfl rfl rfl (by omega)) rfl ?_
 refine G.step (OG.alloc rfl ti3 (zs:=[.int .i64 (0)]) rfl) rfl rfl rfl ?_
 rintro _ _ ⟨g13,rfl,rfl⟩
 refine G.stepD0 (OD.store rfl ti3 rfl rfl (us:=[.int .i64 ((2*(u7.length:Nat))+cr)]) rfl rfl rfl (i:=0) rfl rfl) rfl rfl ?_
 refine Zn (Zt (Zs (Zs (Zr (Zd (OD.load rfl ti3 rfl (i:=0) rfl rfl) rfl ?_)))))
 refine Zd (OD.gtr rfl rfl rfl) rfl ?_
 refine Zn (Zt ?_)
 refine GC.cond rfl (fun hc14=>?_) (fun hc14=>?_)
 replace hc14:=of_decide_eq_true hc14
 have hOk:smOk cr cd p=false:=by rw[smOk,hS,hPr,decide_eq_false (by omega)] <;> rfl
 refine Zs (Zr (Zd (OD.build (idx:=[]) (xs:=[]) (vs:=[]) (cs:=[]) (zs:=[.int .i64 (0),.int .i64 (0),.slice none 0 0]) (r:=[.int .i64 (0),.int .i64 (0),.slice none 0 0]) rfl ti43 rfl rfl rfl trivial rfl) rfl ?_))
 refine G.stepD0 (OD.store rfl ti43 rfl rfl (us:=[.int .i64 (0),.int .i64 (0),.slice none 0 0]) rfl rfl rfl (i:=5) rfl rfl) rfl rfl ?_
 refine Za rfl (Zn (Zt (GC.ret (GE.passR ?_))))
 refine GE.nilInts 3 ?_
 exact GE.body [0] 8 (resN rfl (RVs.cons (rv_cells ti43 rfl (i:=6) rfl rfl) (RVs.cons (rv_tmp rfl) RVs.nil)) rfl) rfl (⟨(.slice none 0 0),congr (congr (congrArg (fun(a0:Int) (a1:Int) (a3:Bool)=>(.tuple #[.agg #[.int .i64 (a0),.int .i64 (a1),(.slice none 0 0)],.bool (a3)]:Value)) ((by rw[smAp,hOk] <;> rfl:(0:Int)=smAp cr cd p))) ((by rw[smAn,hOk];first | rfl | (simp only[if_true];omega):(0:Int)=smAn cr cd p))) ((hOk.symm:(false:Bool)=smOk cr cd p)),IsS.nil,congrArg (fun(l0:List Int)=>ints 3 (.slice none 0 0) l0::own) ((by rw[smAd,hOk] <;> rfl : []=smAd cr cd p))⟩)
 replace hc14:=of_decide_eq_false hc14
 have hOk:smOk cr cd p=true:=by rw[smOk,hS,hPr,decide_eq_true (by omega)] <;> rfl
 refine Zk (Zt (Zs (Zr (Zd (OD.loadAgg rfl ti27 rfl (i:=7) rfl (us:=[.int .i64 (cr),vcd]) rfl rfl) rfl ?_))))
 refine G.step (OG.call [.agg #[.int .i64 (cr),vcd]] ent40 rfl rfl rfl rfl (by exact(newConstants_w scd (Ent.drop 8 ecd) (hS) ((Ent.drop 8 htab))))) rfl rfl rfl ?_
 rintro _ _ ⟨v15,u16,g20,g21,g22,rfl,hs17,hs18,hs19,rfl⟩
 refine G.step (OG.alloc rfl ti66 (zs:=[.int .i64 (0),.slice none 0 0,.slice none 0 0,.map none,.map none,.map none]) rfl) rfl rfl rfl ?_
 rintro _ _ ⟨g23,rfl,rfl⟩
 refine G.stepD0 (OD.store rfl ti66 rfl rfl (us:=[.int .i64 (cr),vcd,v15,.map (some g20),.map (some g21),.map (some g22)]) rfl rfl (allC rfl (allC (IsS.one scd) (allC (IsS.one hs17) (allC rfl (allC rfl (allC rfl rfl)))))) (i:=0) rfl rfl) rfl rfl ?_
 refine Zn (Zt (Zs (Zr (Zd (OD.fieldAddr rfl rfl fa64_1) rfl ?_))))
 refine Zd (OD.load rfl ti60 rfl (i:=7) rfl rfl) rfl ?_
 refine Zd (OD.len rfl rfl et60 rfl (Ent.lst (i:=8) rfl)) rfl ?_
 refine G.step (OG.alloc rfl ti3 (zs:=[.int .i64 (0)]) rfl) rfl rfl rfl ?_
 rintro _ _ ⟨g24,rfl,rfl⟩
 refine G.stepD0 (OD.store rfl ti3 rfl rfl (us:=[.int .i64 ((u7.length:Nat))]) rfl rfl rfl (i:=0) rfl rfl) rfl rfl ?_
 refine Zn (Zt (Zs ?_))
 refine GC.at [6,0,0,0,0,0,0,0,0,0,0,0,0,0,0] 0 (env':=[(0,.agg #[.int .i64 (cr),vcd]),(1,.int .i64 (p)),(2,.pointer (some ⟨g1,0,none⟩)),(3,.pointer (some ⟨g2,0,none⟩)),(4,.pointer (some ⟨g3,0,none⟩)),(5,.bool false),(10,.agg #[.int .i64 (cr),vcd]),(11,.bool ((tyS cr cd).isSome)),(12,.bool false),(13,.bool false),(14,.int .i64 (p)),(15,.bool (primeB p)),(16,.bool (!(primeB p))),(17,.bool (!(primeB p))),(19,.agg #[.int .i64 (cr),vcd]),(20,.agg #[.int .i64 (cr),vcd,v6,.map (some g11)]),(6,.pointer (some ⟨g12,0,none⟩)),(21,.pointer (some ⟨g12,2,none⟩)),(22,v6),(23,.int .i64 ((u7.length:Nat))),(24,.int .i64 (2*(u7.length:Nat))),(25,.pointer (some ⟨g1,0,none⟩)),(26,.int .i64 (cr)),(27,.int .i64 ((2*(u7.length:Nat))+cr)),(7,.pointer (some ⟨g13,0,none⟩)),(28,.int .i64 ((2*(u7.length:Nat))+cr)),(29,.bool (decide (28<(2*(u7.length:Nat))+cr))),(31,.agg #[.int .i64 (cr),vcd]),(32,.agg #[.int .i64 (cr),vcd,v15,.map (some g20),.map (some g21),.map (some g22)]),(8,.pointer (some ⟨g23,0,none⟩)),(33,.pointer (some ⟨g12,2,none⟩)),(34,v6),(35,.int .i64 ((u7.length:Nat))),(9,.pointer (some ⟨g24,0,none⟩))]) ⟨rfl,rfl,rfl,rfl,rfl,rfl,rfl,rfl,rfl,rfl,rfl,rfl,rfl,rfl,rfl,rfl,rfl,rfl,rfl,rfl,rfl,rfl,rfl,rfl,rfl,rfl,rfl,rfl,rfl,rfl,rfl,rfl,rfl,rfl,trivial⟩ (own':=mapA keyP valI g22 []::box g24 3 [.int .i64 ((u7.length:Nat))]::box g23 66 [.int .i64 (cr),vcd,v15,.map (some g20),.map (some g21),.map (some g22)]::lst 22 v15 u16::many (ints 3) u16 (rSt cr cd)::mapA keyL valI g20 (rKvs cr cd)::mapA keyL valI g21 (hfK cr cd)::box g13 3 [.int .i64 ((2*(u7.length:Nat))+cr)]::box g12 64 [.int .i64 (cr),vcd,v6,.map (some g11)]::lst 22 v6 u7::many (ints 3) u7 (rSt cr cd)::mapA keyL valI g11 (rKvs cr cd)::box g3 43 [.int .i64 (0),.int .i64 (0),.slice none 0 0]::box g2 3 [.int .i64 (p)]::box g1 27 [.int .i64 (cr),vcd]::own) rfl ?_
 refine GC.memClose (n:=cr) (d:=cd) (KpOk.nil) ?_
 refine Zr (Zd (OD.load rfl ti3 rfl (i:=13) rfl rfl) rfl ?_)
 refine Zd (OD.load rfl ti3 rfl (i:=7) rfl rfl) rfl ?_
 refine Zd (OD.makeFunc (first:=[]) (captured:=[.tmp 7,.tmp 6,.tmp 2,.tmp 9,.tmp 3,.tmp 8]) (us:=[]) (vs:=[.pointer (some ⟨g13,0,none⟩),.pointer (some ⟨g12,0,none⟩),.pointer (some ⟨g1,0,none⟩),.pointer (some ⟨g24,0,none⟩),.pointer (some ⟨g2,0,none⟩),.pointer (some ⟨g23,0,none⟩)]) rfl rfl rfl) rfl ?_
 refine G.at [7,7,12,1,10,1,0] 0 (env':=[(0,.agg #[.int .i64 (cr),vcd]),(1,.int .i64 (p)),(2,.pointer (some ⟨g1,0,none⟩)),(3,.pointer (some ⟨g2,0,none⟩)),(4,.pointer (some ⟨g3,0,none⟩)),(5,.bool false),(10,.agg #[.int .i64 (cr),vcd]),(11,.bool ((tyS cr cd).isSome)),(12,.bool false),(13,.bool false),(14,.int .i64 (p)),(15,.bool (primeB p)),(16,.bool (!(primeB p))),(17,.bool (!(primeB p))),(19,.agg #[.int .i64 (cr),vcd]),(20,.agg #[.int .i64 (cr),vcd,v6,.map (some g11)]),(6,.pointer (some ⟨g12,0,none⟩)),(21,.pointer (some ⟨g12,2,none⟩)),(22,v6),(23,.int .i64 ((u7.length:Nat))),(24,.int .i64 (2*(u7.length:Nat))),(25,.pointer (some ⟨g1,0,none⟩)),(26,.int .i64 (cr)),(27,.int .i64 ((2*(u7.length:Nat))+cr)),(7,.pointer (some ⟨g13,0,none⟩)),(28,.int .i64 ((2*(u7.length:Nat))+cr)),(29,.bool (decide (28<(2*(u7.length:Nat))+cr))),(31,.agg #[.int .i64 (cr),vcd]),(32,.agg #[.int .i64 (cr),vcd,v15,.map (some g20),.map (some g21),.map (some g22)]),(8,.pointer (some ⟨g23,0,none⟩)),(33,.pointer (some ⟨g12,2,none⟩)),(34,v6),(35,.int .i64 ((u7.length:Nat))),(9,.pointer (some ⟨g24,0,none⟩)),(36,.int .i64 (p)),(37,.int .i64 ((2*(u7.length:Nat))+cr)),(38,.func (.func 63) #[] #[.pointer (some ⟨g13,0,none⟩),.pointer (some ⟨g12,0,none⟩),.pointer (some ⟨g1,0,none⟩),.pointer (some ⟨g24,0,none⟩),.pointer (some ⟨g2,0,none⟩),.pointer (some ⟨g23,0,none⟩)])]) ⟨rfl,rfl,rfl,rfl,rfl,rfl,rfl,rfl,rfl,rfl,rfl,rfl,rfl,rfl,rfl,rfl,rfl,rfl,rfl,rfl,rfl,rfl,rfl,rfl,rfl,rfl,rfl,rfl,rfl,rfl,rfl,rfl,rfl,rfl,rfl,rfl,rfl,trivial⟩ (own':=box g13 3 [.int .i64 ((2*(u7.length:Nat))+cr)]::box g12 64 [.int .i64 (cr),vcd,v6,.map (some g11)]::box g1 27 [.int .i64 (cr),vcd]::box g24 3 [.int .i64 ((u7.length:Nat))]::box g2 3 [.int .i64 (p)]::box g23 66 [.int .i64 (cr),vcd,v15,.map (some g20),.map (some g21),.map (some g22)]::memA g22 cr cd::lst 22 v15 u16::many (ints 3) u16 (rSt cr cd)::mapA keyL valI g20 (rKvs cr cd)::mapA keyL valI g21 (hfK cr cd)::lst 22 v6 u7::many (ints 3) u7 (rSt cr cd)::mapA keyL valI g11 (rKvs cr cd)::box g3 43 [.int .i64 (0),.int .i64 (0),.slice none 0 0]::own) rfl ?_
 refine G.step (OG.call [.int .i64 (p),.int .i64 ((2*(u7.length:Nat))+cr),.func (.func 63) #[] #[.pointer (some ⟨g13,0,none⟩),.pointer (some ⟨g12,0,none⟩),.pointer (some ⟨g1,0,none⟩),.pointer (some ⟨g24,0,none⟩),.pointer (some ⟨g2,0,none⟩),.pointer (some ⟨g23,0,none⟩)]] ent62 rfl rfl rfl rfl (by exact(tableBy_w scd (Ent.drop 8 ecd) hs8 (Ent.len (Ent.lst (i:=4) rfl) (by omega)) (fun k hk=>Ent.manyInts (i:=5) (k:=k) rfl ⟨by omega,hk⟩) (by omega) hs9 (Ent.map (kE:=keyL) (vE:=valI) (l:=rKvs cr cd) (i:=6) rfl) hs17 (Ent.len (Ent.lst (i:=0) rfl) (by omega)) (fun k hk=>Ent.manyInts (i:=1) (k:=k) rfl ⟨by omega,hk⟩) (by omega) hs18 (Ent.map (kE:=keyL) (vE:=valI) (l:=rKvs cr cd) (i:=2) rfl) (Ent.map (kE:=keyL) (vE:=valI) (l:=hfK cr cd) (i:=3) rfl) (hS) (by omega) (by omega) (by omega) (by omega) ((Ent.drop 8 htab)) (rfl) (by omega)))) rfl rfl rfl ?_
 rintro _ _ ⟨v25,rfl,hs26,rfl⟩
 refine G.stepD0 (OD.store rfl ti43 rfl rfl (us:=[.int .i64 (p),.int .i64 ((2*(u7.length:Nat))+cr),v25]) rfl rfl (allC rfl (allC rfl (allC (IsS.one hs26) rfl))) (i:=15) rfl rfl) rfl rfl ?_
 refine Za rfl (Zn (Zt (GC.ret ?_)))
 exact GE.body [0] 15 (resN rfl (RVs.cons (rv_cells ti43 rfl (i:=15) rfl rfl) (RVs.cons (rv_tmp rfl) RVs.nil)) rfl) rfl (⟨v25,congr (congr (congrArg (fun(a0:Int) (a1:Int) (a3:Bool)=>(.tuple #[.agg #[.int .i64 (a0),.int .i64 (a1),v25],.bool (a3)]:Value)) ((by rw[smAp,hOk] <;> rfl:(p:Int)=smAp cr cd p))) ((by rw[smAn,hOk];first | rfl | (simp only[if_true];omega):((2*(u7.length:Nat))+cr:Int)=smAn cr cd p))) ((hOk.symm:(true:Bool)=smOk cr cd p)),hs26,congrArg (fun(l0:List Int)=>ints 3 v25 l0::own) ((by rw[smAd,hOk] <;> rfl:stT cr cd p=smAd cr cd p))⟩)
end Go.Proofs.YtbmnnbglipkidaaGreatDoor
