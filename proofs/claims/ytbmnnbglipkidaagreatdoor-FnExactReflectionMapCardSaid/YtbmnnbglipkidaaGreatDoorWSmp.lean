/-
  Tables of simple algebras by the first text: contracts by walks.
-/
import Derived.Test.YtbmnnbglipkidaaGreatDoorWCns
import Derived.Test.YtbmnnbglipkidaaGreatDoorZ60
namespace Go.Proofs.YtbmnnbglipkidaaGreatDoor
set_option maxRecDepth 100000
set_option maxHeartbeats 4000000
set_option linter.unusedVariables false
set_option linter.unusedSimpArgs false
open Go.RowKit
theorem UX:∀ us w,(callFunc 61 us).run Tryz.prog w = .ok (.enter 61 us) w:=fun us w=>by kernel_rfl
theorem fk:∀ us w,(callFunc 62 us).run Tryz.prog w = .ok (.enter 62 us) w:=fun us w=>by kernel_rfl
theorem fF:∀ us w,(callFunc 63 us).run Tryz.prog w = .ok (.enter 63 us) w:=fun us w=>by kernel_rfl
theorem Z6:∀ us w,(callFunc 64 us).run Tryz.prog w = .ok (.enter 64 us) w:=fun us w=>by kernel_rfl
theorem KZ:∀ us w,(callFunc 65 us).run Tryz.prog w = .ok (.enter 65 us) w:=fun us w=>by kernel_rfl
theorem ai:∀ us w,(callFunc 67 us).run Tryz.prog w = .ok (.enter 67 us) w:=fun us w=>by kernel_rfl
theorem eA:∀ us w,(callFunc 69 us).run Tryz.prog w = .ok (.enter 69 us) w:=fun us w=>by kernel_rfl
theorem Va:∀ us w,(callFunc 70 us).run Tryz.prog w = .ok (.enter 70 us) w:=fun us w=>by kernel_rfl
theorem On {W:World}{own:List Asn}{vx:Value}{x:List Int}(sx:Ab vx)(ex:Ent own fun w=>Ints w vx x):Spec Tryz.prog 67 [vx] W own (fun v ow=>v = .bool (Dd x)∧ow=own):=Spec.drewN fun w hs=>PF _ _ w (ex W w hs)
theorem UR {W:World}{own:List Asn}{cr:Int}{vcd:Value}{cd:List Int}{vL:Value}{uL:List Value}{gmp:Nat}{i:Nat}(scd:Ab vcd)(ecd:Ent own fun w=>Ints w vcd cd)(sL:Ab vL)(eL:Ent own fun w=>Sl w vL (rSt cr cd).length 1 uL)(mL:∀ k,k<(rSt cr cd).length→Ent own fun w=>Ints w (uL.getD k undef) ((rSt cr cd).getD k []))(lL:uL.length=(rSt cr cd).length)(aL:AllS uL)(hmp:Ent own (BO Bc valI gmp (A7 cr cd)))(hS:(Ax cr cd).isSome=true)(hi:i<smN cr cd):Spec Tryz.prog 64 [.agg #[J (cr),vcd,vL,.map (some gmp)],J ((i:Int))] W own (fun v ow=>∃ (v0:Value),v=v0∧Ab v0∧(C7 v0=BX cr cd i)∧(i<smM cr cd→v0=uL.getD i undef)∧ow=opA (decide (smM cr cd+cr.toNat≤i)) (ints 3 v0 (smR cr cd i))::own):=by
 have hcr:=(AB hS).1
 have hcd:=(AB hS).2
 have hMl:smM cr cd=(rSt cr cd).length:=rfl
 have hNl:smN cr cd=2*smM cr cd+cr.toNat:=rfl
 have hr4:=(rtOk hS).rk
 have hlo:=(rtOk hS).lo
 have hRf:(rSt cr cd).length≤30:=by have h1:=(rtOk hS).slen;have h2:=(rtOk hS).few;omega
 refine Spec.enter Tryz.f64 _ Tryz.func64 rfl (n:=38) rfl rfl ?_
 refine Zs (Zr (Yt (OG.box (cs:=[J (cr),vcd,vL,.map (some gmp)]) rfl rfl rfl) ?_))
 rintro _ _ ⟨g1,rfl,rfl⟩
 refine Za rfl (Zn (Zt (Zs (Zr (Zd (Qf BR) rfl ?_)))))
 refine Zd (Ql DZ 0) rfl ?_
 refine Zd (Qn AM (Ent.drop 1 eL)) rfl ?_
 refine Za rfl (Zn (Zt (Zs (GC.block (Zs (Zr ?_))))))
 refine Zm rfl (Zm rfl (Zd Bb rfl ?_))
 refine Za rfl (Zn (Zt ?_))
 refine GC.cond rfl (fun hc2=>?_) (fun hc2=>?_)
 replace hc2:=of_decide_eq_true hc2
 refine Zs (Zr (Zd (Qf BR) rfl ?_))
 refine Zd (Ql DZ 0) rfl ?_
 refine Zm rfl (Zd (Qi AM (Ent.drop 1 eL)) rfl ?_)
 refine Zd (OD.loadElem rfl AH rfl (Ent.drop 1 eL) (by omega) rfl) rfl ?_
 refine Za rfl (Zn (Zt (GC.ret (GE.blockR (GE.passR ?_)))))
 refine GE.fact (Q1 (Ent.drop 1 (mL (i) (by omega))) (by have:=(Ay hS (Bh (show i<(rSt cr cd).length by omega))).1;omega)) fun hnl=>?_
 refine GE.opNo (b:=decide (smM cr cd+cr.toNat≤i)) (A:=ints 3 (uL.getD (i) undef) (smR cr cd i)) (decide_eq_false (by omega)) ?_
 skip
 exact GE.body [0] 1 (Ao rfl rfl) rfl (⟨(uL.getD (i) undef),rfl,((aL.get (by omega))),(hnl.trans (fu (by omega)).symm),(fun _=>rfl),rfl⟩)
 replace hc2:=of_decide_eq_false hc2
 refine Zs (Zr (Zm rfl (Zm rfl (Zd (Qf MP) rfl ?_))))
 refine Zd (Qf Aq) rfl ?_
 refine Zd (Ql Ak 0) rfl ?_
 refine Zd Qp rfl ?_
 refine Zd Bb rfl ?_
 refine Za rfl (Zn (Zt ?_))
 refine GC.cond rfl (fun hc3=>?_) (fun hc3=>?_)
 replace hc3:=of_decide_eq_true hc3
 refine Zs (Zr (Za rfl (Zn (Zt (GC.ret (GE.blockR (GE.passR ?_)))))))
 refine GE.opNo (b:=decide (smM cr cd+cr.toNat≤i)) (A:=ints 3 (.slice none 0 0) (smR cr cd i)) (decide_eq_false (by omega)) ?_
 skip
 exact GE.body [0] 1 (Ao rfl rfl) rfl (⟨(.slice none 0 0),rfl,(Ab.nil),((fH (by omega) (by omega)).symm),(fun h=>absurd h (by omega)),rfl⟩)
 replace hc3:=of_decide_eq_false hc3
 refine Zk (GE.blockN (Zt (Zs (Zr ?_))))
 refine Zd (Qf BR) rfl ?_
 refine Zd (Ql DZ 0) rfl ?_
 refine Zm rfl (Zm rfl (Zd Qs rfl ?_))
 refine Zd (Qf MP) rfl ?_
 refine Zd (Qf Aq) rfl ?_
 refine Zd (Ql Ak 0) rfl ?_
 refine Zd Qs rfl ?_
 refine Zd (Qi AM (Ent.drop 1 eL)) rfl ?_
 refine Zd (OD.loadElem rfl AH rfl (Ent.drop 1 eL) (by omega) rfl) rfl ?_
 refine Yt (Yc [J (-1),(uL.getD ((((i:Int) - ((rSt cr cd).length:Nat)) - cr:Int).toNat) undef)] FF (by exact(Bs (aL.get (by omega)) (Ent.drop 1 (mL ((((i:Int) - ((rSt cr cd).length:Nat)) - cr:Int).toNat) (by omega))) (by have:=(Ay hS (Bh (show (((i:Int) - (((rSt cr cd).length:Nat))) - cr:Int).toNat<(rSt cr cd).length by omega))).1;omega)))) ?_
 rintro v4 _ ⟨_,rfl,hs5,rfl⟩
 refine Za rfl (Zn (Zt (GC.ret ?_)))
 refine GE.ownEq (own':=ints 3 v4 (smR cr cd i)::box g1 64 [J (cr),vcd,vL,.map (some gmp)]::own) (by rw[eo (by omega),← fX hS (by omega) (by omega) (q:=(((i:Int) - ((rSt cr cd).length:Nat)) - cr:Int).toNat) (by omega)] <;> rfl) ?_
 refine GE.fact (Q1 (Ei 0) (by have:=(Aw hS (CI hS (i:=i) (by omega) (Z5 (by omega)))).1;omega)) fun hnl=>?_
 refine Yr [0,0] (_::_::own) ?_
 refine GE.opYes (b:=decide (smM cr cd+cr.toNat≤i)) (decide_eq_true (by omega)) ?_
 skip
 exact GE.body [0] 1 (Ao rfl rfl) rfl (⟨v4,rfl,(hs5),(hnl.trans (Z5 (by omega)).symm),(fun h=>absurd h (by omega)),rfl⟩)
theorem fx {W:World}{own:List Asn}{i:Nat}{j:Nat}{gn gr gc gh gp gs gk:Nat}{nn hh p cr:Int}{vcd:Value}{cd:List Int}{vL:Value}{uL:List Value}{gmp:Nat}{vLz:Value}{uLz:List Value}{gmq:Nat}{gqp:Nat}(scd:Ab vcd)(ecd:Ent own fun w=>Ints w vcd cd)(sL:Ab vL)(eL:Ent own fun w=>Sl w vL (rSt cr cd).length 1 uL)(mL:∀ k,k<(rSt cr cd).length→Ent own fun w=>Ints w (uL.getD k undef) ((rSt cr cd).getD k []))(lL:uL.length=(rSt cr cd).length)(aL:AllS uL)(hmp:Ent own (BO Bc valI gmp (A7 cr cd)))(sLz:Ab vLz)(eLz:Ent own fun w=>Sl w vLz (rSt cr cd).length 1 uLz)(mLz:∀ k,k<(rSt cr cd).length→Ent own fun w=>Ints w (uLz.getD k undef) ((rSt cr cd).getD k []))(lLz:uLz.length=(rSt cr cd).length)(aLz:AllS uLz)(hmq:Ent own (BO Bc valI gmq (A7 cr cd)))(hqp:Ent own (BO Bc valI gqp (Lg cr cd)))(hS:(Ax cr cd).isSome=true)(hN:nn=(smN cr cd:Nat))(hH:hh=(smM cr cd:Nat))(h28:smN cr cd≤28)(hpp:1≤p∧p≤1000000)(htab:Ent own Cm)(hi:i<smN cr cd)(hj:j<smN cr cd):Spec Tryz.prog 63 [J ((i:Int)),J ((j:Int)),Pg gn 0,Pg gr 0,Pg gc 0,Pg gh 0,Pg gp 0,Pg gs 0] W (box gn 3 [J (nn)]::box gr 64 [J (cr),vcd,vL,.map (some gmp)]::box gc 27 [J (cr),vcd]::box gh 3 [J (hh)]::box gp 3 [J (p)]::box gs 66 [J (cr),vcd,vLz,.map (some gmq),.map (some gqp),.map (some gk)]::memA gk cr cd::own) (fun v ow=>∃ (r0:Value),v=r0∧Ab r0∧ow=ints 3 r0 (rwF cr cd p i j)::box gn 3 [J (nn)]::box gr 64 [J (cr),vcd,vL,.map (some gmp)]::box gc 27 [J (cr),vcd]::box gh 3 [J (hh)]::box gp 3 [J (p)]::box gs 66 [J (cr),vcd,vLz,.map (some gmq),.map (some gqp),.map (some gk)]::memA gk cr cd::own):=by
 have hcr:=(AB hS).1
 have hcd:=(AB hS).2
 have hMl:smM cr cd=(rSt cr cd).length:=rfl
 have hNl:smN cr cd=2*smM cr cd+cr.toNat:=rfl
 have hr4:=(rtOk hS).rk
 have hlo:=(rtOk hS).lo
 have hRf:(rSt cr cd).length≤30:=by have h1:=(rtOk hS).slen;have h2:=(rtOk hS).few;omega
 have hc0:=fun k=>Gp (n:=cr) (d:=cd) (p:=p) (i:=i) k
 refine Spec.enter Tryz.f63 _ Tryz.func63 rfl (n:=107) rfl rfl ?_
 refine Zs (Zr (Za rfl (Zn (Zt (Zs (Zr (Zd (Ql Ak 0) rfl ?_)))))))
 refine Yt (OG.makeInts rfl Ac rfl rfl (by omega)) ?_
 rintro v1 _ ⟨hs2,rfl⟩
 refine Za rfl (Zn (Zt (Zs (GC.ownEq (own':=ints 3 v1 (List.replicate (smN cr cd) 0)::box gn 3 [J (nn)]::box gr 64 [J (cr),vcd,vL,.map (some gmp)]::box gc 27 [J (cr),vcd]::box gh 3 [J (hh)]::box gp 3 [J (p)]::box gs 66 [J (cr),vcd,vLz,.map (some gmq),.map (some gqp),.map (some gk)]::memA gk cr cd::own) (by rw[hN] <;> rfl) ?_))))
 refine Ya [(0,_),(1,_),(3,_),(4,_),(5,_),(6,_),(7,_),(11,_)] ?_
 refine Wp [Z0 18 (.agg #[J (cr),vcd,vL,.map (some gmp)]),Z0 19 (J ((i:Int))),⟨20,[(0,18),(1,19)],[],[],[2],fun ds=>((ds.getD 0 []).getD 0 undef),fun ds=>Ab ((ds.getD 0 []).getD 0 undef)∧(C7 ((ds.getD 0 []).getD 0 undef)=BX cr cd i)∧(i<smM cr cd→((ds.getD 0 []).getD 0 undef)=uL.getD i undef),fun ds=>[opA (decide (smM cr cd+cr.toNat≤i)) (ints 3 ((ds.getD 0 []).getD 0 undef) (smR cr cd i))]⟩,Z0 21 (.agg #[J (cr),vcd,vL,.map (some gmp)]),Z0 22 (J ((j:Int))),⟨23,[(3,21),(4,22)],[],[],[5],fun ds=>((ds.getD 0 []).getD 0 undef),fun ds=>Ab ((ds.getD 0 []).getD 0 undef)∧(C7 ((ds.getD 0 []).getD 0 undef)=BX cr cd j)∧(j<smM cr cd→((ds.getD 0 []).getD 0 undef)=uL.getD j undef),fun ds=>[opA (decide (smM cr cd+cr.toNat≤j)) (ints 3 ((ds.getD 0 []).getD 0 undef) (smR cr cd j))]⟩] (Zc (fun _ _ _=>Zq (Qa Df 2 [_,_,_,_]) rfl) (Yv (Zc (fun _ _ _=>AR.plain (OG.imp (Yc [.agg #[J (cr),vcd,vL,.map (some gmp)],J ((i:Int))] Z6 (by exact(UR scd (Ent.drop 8 ecd.app) sL (Ent.drop 8 eL.app) (fun k hk=>(Ent.drop 8 ((mL k hk).app))) lL aL (Ent.drop 8 hmp.app) (hS) (by omega)))) (by rintro v3 _ ⟨_,rfl,hs4,hs5,hs6,rfl⟩;exact⟨[v3],rfl,⟨hs4,hs5,hs6⟩,rfl⟩)) rfl) (Zc (fun _ _ _=>Zq (Qa Df 2 [_,_,_,_]) rfl) (Yv (Zc (fun _ _ _=>AR.plain (OG.imp (Yc [.agg #[J (cr),vcd,vL,.map (some gmp)],J ((j:Int))] Z6 (by exact(UR scd (Ent.drop 8 ecd.app) sL (Ent.drop 8 eL.app) (fun k hk=>(Ent.drop 8 ((mL k hk).app))) lL aL (Ent.drop 8 hmp.app) (hS) (by omega)))) (by rintro v7 _ ⟨_,rfl,hs8,hs9,hs10,rfl⟩;exact⟨[v7],rfl,⟨hs8,hs9,hs10⟩,rfl⟩)) rfl) As.nil)))))) ?_
 intro θ hall
 obtain⟨_,_,h2a,_,_,h5a,_⟩:=hall
 refine Yb [(0,_),(1,_),(3,_),(4,_),(5,_),(6,_),(7,_),(11,_),(20,((θ 2).getD 0 undef)),(23,((θ 5).getD 0 undef))] (opA (decide (smM cr cd+cr.toNat≤i)) (ints 3 ((θ 2).getD 0 undef) (smR cr cd i))::opA (decide (smM cr cd+cr.toNat≤j)) (ints 3 ((θ 5).getD 0 undef) (smR cr cd j))::_::_) ?_
 have hs11:Ab ((θ 2).getD 0 undef):=h2a.1
 have hs12:(C7 ((θ 2).getD 0 undef)=BX cr cd i):=h2a.2.1
 have hs13:(i<smM cr cd→((θ 2).getD 0 undef)=uL.getD i undef):=h2a.2.2
 clear h2a
 generalize ((θ 2).getD 0 undef)=v14 at *
 have hs15:Ab ((θ 5).getD 0 undef):=h5a.1
 have hs16:(C7 ((θ 5).getD 0 undef)=BX cr cd j):=h5a.2.1
 have hs17:(j<smM cr cd→((θ 5).getD 0 undef)=uL.getD j undef):=h5a.2.2
 clear h5a
 generalize ((θ 5).getD 0 undef)=v18 at *
 show G _ _ _ [_,_] _ _ _ _
 refine Za rfl (Za rfl (Zn (Zt (Zs (GC.block (Zs ?_))))))
 rcases Bool.eq_false_or_eq_true (BX cr cd i) with hx19 | hx19
 rcases Bool.eq_false_or_eq_true (BX cr cd j) with hx20 | hx20
 have hHi:=hx19
 have hnli:=hs12.trans hx19
 obtain⟨hHi1,hHi2⟩:=MY hHi
 have hHj:=hx20
 have hnlj:=hs16.trans hx20
 obtain⟨hHj1,hHj2⟩:=MY hHj
 refine Zr (Zm rfl (Zd (OD.eqv (OD.eqlNil rfl Ac.ht rfl hs11 rfl) (congrArg Value.bool ((hnli):_=true))) rfl ?_))
 refine Zm rfl (Yd (OD.move rfl rfl) ?_)
 refine Yd (OD.eqv (OD.eqlNil rfl Ac.ht rfl hs15 rfl) (congrArg Value.bool ((hnlj):_=true))) ?_
 refine Zd (OD.pickT rfl rfl rfl) rfl ?_
 refine Za rfl (Zn (Zt (GC.condT rfl (Zk (GE.blockN (Zt (Zs (Zr ?_))))))))
 refine Zm rfl (Za rfl (Zn (Zt (GC.ret ?_))))
 exact GE.body [2,2,2,2,2,2,2,2] 2 (Ao rfl rfl) rfl (⟨v1,rfl,hs2,congrArg (fun l0=>ints 3 v1 l0::box gn 3 [J (nn)]::box gr 64 [J (cr),vcd,vL,.map (some gmp)]::box gc 27 [J (cr),vcd]::box gh 3 [J (hh)]::box gp 3 [J (p)]::box gs 66 [J (cr),vcd,vLz,.map (some gmq),.map (some gqp),.map (some gk)]::memA gk cr cd::own) ((rw_HH hHi hHj:List.replicate (smN cr cd) 0=rwF cr cd p i j))⟩)
 have hHi:=hx19
 have hnli:=hs12.trans hx19
 obtain⟨hHi1,hHi2⟩:=MY hHi
 have hHj:=hx20
 have hnlj:=hs16.trans hx20
 have hrj:=CI hS hj hHj
 obtain⟨hlj,h10j,_⟩:=Aw hS hrj
 refine Zr (Zm rfl (Zd (OD.eqv (OD.eqlNil rfl Ac.ht rfl hs11 rfl) (congrArg Value.bool ((hnli):_=true))) rfl ?_))
 refine Zm rfl (Yd (OD.move rfl rfl) ?_)
 refine Yd (OD.eqv (OD.eqlNil rfl Ac.ht rfl hs15 rfl) (congrArg Value.bool ((hnlj):_=false))) ?_
 refine Zd (OD.pickT rfl rfl rfl) rfl ?_
 refine Za rfl (Zn (Zt (GC.condF rfl (Zs (Zr ?_)))))
 refine Zm rfl (Zd (OD.eqv (OD.eqlNil rfl Ac.ht rfl hs11 rfl) (congrArg Value.bool ((hnli):_=true))) rfl ?_)
 refine Za rfl (Zn (Zt (GC.condT rfl ?_)))
 have hw12:=fun q=>gA hS hrj q
 have hwl:=Dj cr cd (smR cr cd j)
 refine Ya [(0,_),(1,_),(4,_),(5,_),(6,_),(11,_),(13,_)] ?_
 refine Wp [Z0 34 v1,Z0 35 (J ((j:Int))),Z0 36 (.agg #[J (cr),vcd]),Z0 37 v18,⟨38,[(2,36),(3,37)],[],[],[4],fun ds=>((ds.getD 0 []).getD 0 undef),fun ds=>Ab ((ds.getD 0 []).getD 0 undef),fun ds=>[ints 3 ((ds.getD 0 []).getD 0 undef) (wtF cr cd (smR cr cd j))]⟩,Z0 39 (J ((i:Int))),Z0 40 (J (hh)),Z1 41 [(5,39),(6,40)] (J ((i:Int) - hh)),⟨42,[(4,38),(7,41)],[4],[],[4],fun ds=>Aa (((ds.getD 0 []).getD 0 undef)) 1 (((i:Int) - hh:Int).toNat),fun _=>True,fun _=>[]⟩,⟨43,[(8,42)],[4],[],[4],fun _=>J ((wtF cr cd (smR cr cd j)).getD (i - smM cr cd) 0),fun _=>True,fun _=>[]⟩,Z0 44 (J (p)),⟨45,[(9,43),(10,44)],[4],[],[4],fun _=>J (((wtF cr cd (smR cr cd j)).getD (i - smM cr cd) 0)%p),fun _=>True,fun _=>[]⟩,Z1 46 [(0,34),(1,35)] (Aa v1 1 (j))] (Yv (Yv (Zc (fun _ _ _=>Zq (Qa An 5 [_,_]) rfl) (Yv (Zc (fun _ _ _=>AR.plain (OG.imp (Yc [.agg #[J (cr),vcd],v18] Re (by exact(Eo scd (Ent.drop 10 ecd.app) hs15 (CK hHj hs17 (fun k hk=>by exact Ent.drop 10 ((mL k hk).app)) (k:=1) rfl) (hcr) (hcd) (by omega)))) (by rintro v21 _ ⟨_,rfl,hs22,rfl⟩;exact⟨[v21],rfl,hs22,rfl⟩)) rfl) (Yv (Zc (fun _ _ _=>Zq (Ql Ak 6) rfl) (Zc (fun _ _ _=>Zq (OD.subI rfl rfl rfl (by first | omega | (simp only[List.length_set,List.length_replicate];omega))) rfl) (Zc (fun _ _ _=>Zq (OD.indexAddr rfl Ac rfl (Ei 0) rfl (by first | omega | (simp only[List.length_set,List.length_replicate];omega))) rfl) (Zc (fun _ _ _=>Zq (OD.eqv (OD.loadInt rfl Ak rfl (Ei 0) (by first | omega | (simp only[List.length_set,List.length_replicate];omega))) (congrArg (Value.int .i64) ((by congr 1;omega):((wtF cr cd (smR cr cd j)).getD (((i:Int) - hh:Int).toNat) 0:Int)=((wtF cr cd (smR cr cd j)).getD (i - smM cr cd) 0)))) rfl) (Zc (fun _ _ _=>Zq (Ql Ak 7) rfl) (Zc (fun _ _ _=>Zq (Yc [J ((wtF cr cd (smR cr cd j)).getD (i - smM cr cd) 0),J (p)] KZ (by exact(LG (hpp)))) rfl) (Zc (fun _ _ _=>Zq (OD.indexAddr rfl Ac rfl (Ei 2) rfl (by first | omega | (simp only[List.length_set,List.length_replicate];omega))) rfl) As.nil))))))))))))) ?_
 intro θ hall
 obtain⟨_,_,_,_,h4a,_,_,_,_,_,_,_,_,_⟩:=hall
 refine Yb [(11,_),(45,J (((wtF cr cd (smR cr cd j)).getD (i - smM cr cd) 0)%p)),(46,Aa v1 1 (j))] (ints 3 ((θ 4).getD 0 undef) (wtF cr cd (smR cr cd j))::_::_) ?_
 have hs23:Ab ((θ 4).getD 0 undef):=h4a
 clear h4a
 generalize ((θ 4).getD 0 undef)=v24 at *
 show G _ _ _ [_] _ _ _ _
 refine G.stepD0 (OD.storeInt rfl Ak rfl rfl (i:=3) rfl (by first | omega | (simp only[List.length_set,List.length_replicate];omega))) rfl rfl ?_
 refine Zn (GE.blockN (Zt (Zs (Zr ?_))))
 refine Zm rfl (Za rfl (Zn (Zt (GC.ret ?_))))
 exact GE.body [3,3,3,3,3,3,3,3] 3 (Ao rfl rfl) rfl (⟨v1,rfl,hs2,congrArg (fun l0=>ints 3 v1 l0::box gn 3 [J (nn)]::box gr 64 [J (cr),vcd,vL,.map (some gmp)]::box gc 27 [J (cr),vcd]::box gh 3 [J (hh)]::box gp 3 [J (p)]::box gs 66 [J (cr),vcd,vLz,.map (some gmq),.map (some gqp),.map (some gk)]::memA gk cr cd::own) ((rw_Hx hj hHi hHj:(List.replicate (smN cr cd) 0).set (j) (((wtF cr cd (smR cr cd j)).getD (i - smM cr cd) 0)%p)=rwF cr cd p i j))⟩)
 rcases Bool.eq_false_or_eq_true (BX cr cd j) with hx25 | hx25
 have hHi:=hx19
 have hnli:=hs12.trans hx19
 have hri:=CI hS hi hHi
 obtain⟨hli,h10i,_⟩:=Aw hS hri
 have hHj:=hx25
 have hnlj:=hs16.trans hx25
 obtain⟨hHj1,hHj2⟩:=MY hHj
 refine Zr (Zm rfl (Zd (OD.eqv (OD.eqlNil rfl Ac.ht rfl hs11 rfl) (congrArg Value.bool ((hnli):_=false))) rfl ?_))
 refine Zm rfl ?_
 iterate 2 refine Yk ?_
 refine Zd (OD.pickF rfl rfl rfl) rfl ?_
 refine Za rfl (Zn (Zt (GC.condF rfl (Zs (Zr ?_)))))
 refine Zm rfl (Zd (OD.eqv (OD.eqlNil rfl Ac.ht rfl hs11 rfl) (congrArg Value.bool ((hnli):_=false))) rfl ?_)
 refine Za rfl (Zn (Zt (GC.condF rfl (Zs (Zr ?_)))))
 refine Zm rfl (Zd (OD.eqv (OD.eqlNil rfl Ac.ht rfl hs15 rfl) (congrArg Value.bool ((hnlj):_=true))) rfl ?_)
 refine Za rfl (Zn (Zt (GC.condT rfl ?_)))
 have hw12:=fun q=>gA hS hri q
 have hwl:=Dj cr cd (smR cr cd i)
 refine Ya [(0,_),(1,_),(4,_),(5,_),(6,_),(11,_),(12,_)] ?_
 refine Wp [Z0 50 v1,Z0 51 (J ((i:Int))),Z0 52 (.agg #[J (cr),vcd]),Z0 53 v14,⟨54,[(2,52),(3,53)],[],[],[4],fun ds=>((ds.getD 0 []).getD 0 undef),fun ds=>Ab ((ds.getD 0 []).getD 0 undef),fun ds=>[ints 3 ((ds.getD 0 []).getD 0 undef) (wtF cr cd (smR cr cd i))]⟩,Z0 55 (J ((j:Int))),Z0 56 (J (hh)),Z1 57 [(5,55),(6,56)] (J ((j:Int) - hh)),⟨58,[(4,54),(7,57)],[4],[],[4],fun ds=>Aa (((ds.getD 0 []).getD 0 undef)) 1 (((j:Int) - hh:Int).toNat),fun _=>True,fun _=>[]⟩,⟨59,[(8,58)],[4],[],[4],fun _=>J ((wtF cr cd (smR cr cd i)).getD (j - smM cr cd) 0),fun _=>True,fun _=>[]⟩,⟨60,[(9,59)],[4],[],[4],fun _=>J (0 - (wtF cr cd (smR cr cd i)).getD (j - smM cr cd) 0),fun _=>True,fun _=>[]⟩,Z0 61 (J (p)),⟨62,[(10,60),(11,61)],[4],[],[4],fun _=>J ((0 - (wtF cr cd (smR cr cd i)).getD (j - smM cr cd) 0)%p),fun _=>True,fun _=>[]⟩,Z1 63 [(0,50),(1,51)] (Aa v1 1 (i))] (Yv (Yv (Zc (fun _ _ _=>Zq (Qa An 5 [_,_]) rfl) (Yv (Zc (fun _ _ _=>AR.plain (OG.imp (Yc [.agg #[J (cr),vcd],v14] Re (by exact(Eo scd (Ent.drop 10 ecd.app) hs11 (CK hHi hs13 (fun k hk=>by exact Ent.drop 10 ((mL k hk).app)) (k:=0) rfl) (hcr) (hcd) (by omega)))) (by rintro v26 _ ⟨_,rfl,hs27,rfl⟩;exact⟨[v26],rfl,hs27,rfl⟩)) rfl) (Yv (Zc (fun _ _ _=>Zq (Ql Ak 6) rfl) (Zc (fun _ _ _=>Zq (OD.subI rfl rfl rfl (by first | omega | (simp only[List.length_set,List.length_replicate];omega))) rfl) (Zc (fun _ _ _=>Zq (OD.indexAddr rfl Ac rfl (Ei 0) rfl (by first | omega | (simp only[List.length_set,List.length_replicate];omega))) rfl) (Zc (fun _ _ _=>Zq (OD.eqv (OD.loadInt rfl Ak rfl (Ei 0) (by first | omega | (simp only[List.length_set,List.length_replicate];omega))) (congrArg (Value.int .i64) ((by congr 1;omega):((wtF cr cd (smR cr cd i)).getD (((j:Int) - hh:Int).toNat) 0:Int)=((wtF cr cd (smR cr cd i)).getD (j - smM cr cd) 0)))) rfl) (Zc (fun _ _ _=>Zq (OD.negI rfl rfl (by have:=hw12 (j - smM cr cd);omega)) rfl) (Zc (fun _ _ _=>Zq (Ql Ak 7) rfl) (Zc (fun _ _ _=>Zq (Yc [J (0 - (wtF cr cd (smR cr cd i)).getD (j - smM cr cd) 0),J (p)] KZ (by exact(LG (hpp)))) rfl) (Zc (fun _ _ _=>Zq (OD.indexAddr rfl Ac rfl (Ei 2) rfl (by first | omega | (simp only[List.length_set,List.length_replicate];omega))) rfl) As.nil)))))))))))))) ?_
 intro θ hall
 obtain⟨_,_,_,_,h4a,_,_,_,_,_,_,_,_,_,_⟩:=hall
 refine Yb [(11,_),(62,J ((0 - (wtF cr cd (smR cr cd i)).getD (j - smM cr cd) 0)%p)),(63,Aa v1 1 (i))] (ints 3 ((θ 4).getD 0 undef) (wtF cr cd (smR cr cd i))::_::_) ?_
 have hs28:Ab ((θ 4).getD 0 undef):=h4a
 clear h4a
 generalize ((θ 4).getD 0 undef)=v29 at *
 show G _ _ _ [_] _ _ _ _
 refine G.stepD0 (OD.storeInt rfl Ak rfl rfl (i:=3) rfl (by first | omega | (simp only[List.length_set,List.length_replicate];omega))) rfl rfl ?_
 refine Zn (GE.blockN (Zt (Zs (Zr ?_))))
 refine Zm rfl (Za rfl (Zn (Zt (GC.ret ?_))))
 exact GE.body [3,3,3,3,3,3,3,3] 3 (Ao rfl rfl) rfl (⟨v1,rfl,hs2,congrArg (fun l0=>ints 3 v1 l0::box gn 3 [J (nn)]::box gr 64 [J (cr),vcd,vL,.map (some gmp)]::box gc 27 [J (cr),vcd]::box gh 3 [J (hh)]::box gp 3 [J (p)]::box gs 66 [J (cr),vcd,vLz,.map (some gmq),.map (some gqp),.map (some gk)]::memA gk cr cd::own) ((rw_xH hi hHi hHj:(List.replicate (smN cr cd) 0).set (i) ((0 - (wtF cr cd (smR cr cd i)).getD (j - smM cr cd) 0)%p)=rwF cr cd p i j))⟩)
 have hHi:=hx19
 have hnli:=hs12.trans hx19
 have hri:=CI hS hi hHi
 obtain⟨hli,h10i,_⟩:=Aw hS hri
 have hHj:=hx25
 have hnlj:=hs16.trans hx25
 have hrj:=CI hS hj hHj
 obtain⟨hlj,h10j,_⟩:=Aw hS hrj
 refine Zr (Zm rfl (Zd (OD.eqv (OD.eqlNil rfl Ac.ht rfl hs11 rfl) (congrArg Value.bool ((hnli):_=false))) rfl ?_))
 refine Zm rfl ?_
 iterate 2 refine Yk ?_
 refine Zd (OD.pickF rfl rfl rfl) rfl ?_
 refine Za rfl (Zn (Zt (GC.condF rfl (Zs (Zr ?_)))))
 refine Zm rfl (Zd (OD.eqv (OD.eqlNil rfl Ac.ht rfl hs11 rfl) (congrArg Value.bool ((hnli):_=false))) rfl ?_)
 refine Za rfl (Zn (Zt (GC.condF rfl (Zs (Zr ?_)))))
 refine Zm rfl (Zd (OD.eqv (OD.eqlNil rfl Ac.ht rfl hs15 rfl) (congrArg Value.bool ((hnlj):_=false))) rfl ?_)
 refine Za rfl (Zn (Zt (GC.condF rfl (Zs (Zr ?_)))))
 refine Zm rfl (Zm rfl (Yt (Yc [v14,J (1),v18] Gx (by exact(BQ hs11 (CK hHi hs13 (fun k hk=>by exact Ent.drop 10 ((mL k hk))) (k:=0) rfl) hs15 (CK hHj hs17 (fun k hk=>by exact Ent.drop 10 ((mL k hk))) (k:=1) rfl) (by omega) (by omega)))) ?_))
 rintro v30 _ ⟨_,rfl,hs31,rfl⟩
 refine Yt (Yc [v30] ai (by exact(On hs31 (Ei 0)))) ?_
 rintro _ _ ⟨rfl,rfl⟩
 refine Za rfl (Zn (Zt ?_))
 refine GC.cond rfl (fun hc32=>?_) (fun hc32=>?_)
 refine Zs ?_
 have hcrl:=RK cr cd (smR cr cd i)
 refine Zr (Zd (Qa An 6 [_,_]) rfl ?_)
 refine Zm rfl (Yt (Yc [.agg #[J (cr),vcd],v14] eA (by exact(Ul scd (Ent.drop 11 ecd) hs11 (CK hHi hs13 (fun k hk=>by exact Ent.drop 11 ((mL k hk))) (k:=1) rfl) (hS) (by omega) (Th hS hri)))) ?_)
 rintro v33 _ ⟨_,rfl,hs34,rfl⟩
 refine Zd (Qn Ac (Ei 0)) rfl ?_
 refine Zm rfl (Zn (Zt (GC.block ?_)))
 refine GC.ownEq (own':=ints 3 v33 (crF cr cd (smR cr cd i))::ints 3 v30 (Af (smR cr cd i) 1 (smR cr cd j))::opA (decide (smM cr cd+cr.toNat≤i)) (ints 3 v14 (smR cr cd i))::opA (decide (smM cr cd+cr.toNat≤j)) (ints 3 v18 (smR cr cd j))::ints 3 v1 (OJ cr cd p i 0)::box gn 3 [J (nn)]::box gr 64 [J (cr),vcd,vL,.map (some gmp)]::box gc 27 [J (cr),vcd]::box gh 3 [J (hh)]::box gp 3 [J (p)]::box gs 66 [J (cr),vcd,vLz,.map (some gmq),.map (some gqp),.map (some gk)]::memA gk cr cd::own) (rfl) ?_
 refine Yl (ι:=Nat) (fun k=>[(5,Pg gh 0),(6,Pg gp 0),(11,v1),(71,v33),(72,J (((crF cr cd (smR cr cd i)).length:Nat))),(73,J ((k:Int)))]) (fun k=>ints 3 v33 (crF cr cd (smR cr cd i))::ints 3 v30 (Af (smR cr cd i) 1 (smR cr cd j))::opA (decide (smM cr cd+cr.toNat≤i)) (ints 3 v14 (smR cr cd i))::opA (decide (smM cr cd+cr.toNat≤j)) (ints 3 v18 (smR cr cd j))::ints 3 v1 (OJ cr cd p i k)::box gn 3 [J (nn)]::box gr 64 [J (cr),vcd,vL,.map (some gmp)]::box gc 27 [J (cr),vcd]::box gh 3 [J (hh)]::box gp 3 [J (p)]::box gs 66 [J (cr),vcd,vLz,.map (some gmq),.map (some gqp),.map (some gk)]::memA gk cr cd::own) (fun k=>(k≤cr.toNat)) (fun k=>cr.toNat - k) 0 (by omega) [] 0 ?_
 rintro k hk
 refine Zs (Zr (Zd Bb rfl ?_))
 refine Zn (Zt (Zs ?_))
 refine GC.cond rfl (fun hc35=>?_) (fun hc35=>?_)
 replace hc35:=of_decide_eq_true hc35
 have hqk:(hh+(k:Int)).toNat=smM cr cd+k:=by omega
 have hcl2:=Gp (n:=cr) (d:=cd) (p:=p) (i:=i) k
 refine Zk (Zt (Zs (GC.block (Zs (Zr ?_)))))
 refine Zm rfl (Zd (Qi Ac (Ei 0)) rfl ?_)
 refine Zd (Qv Ak (Ei 0)) rfl ?_
 refine Za rfl (Za rfl (Zn (Zt (Ya [(5,_),(6,_),(11,_),(71,_),(72,_),(73,_),(14,_),(15,_)] ?_))))
 refine Wp [Z0 78 v1,Z0 79 (J (hh)),Z0 80 (J ((k:Int))),Z1 81 [(1,79),(2,80)] (J (hh+(k:Int))),Z0 82 (J ((crF cr cd (smR cr cd i)).getD (k) 0)),Z0 83 (J (p)),Z1 84 [(4,82),(5,83)] (J (((crF cr cd (smR cr cd i)).getD (k) 0)%p)),Z1 85 [(0,78),(3,81)] (Aa v1 1 ((hh+(k:Int):Int).toNat))] (Yv (Zc (fun _ _ _=>Zq (Ql Ak 8) rfl) (Yv (Zc (fun _ _ _=>Zq Qp rfl) (Yv (Zc (fun _ _ _=>Zq (Ql Ak 9) rfl) (Zc (fun _ _ _=>Zq (Yc [J ((crF cr cd (smR cr cd i)).getD (k) 0),J (p)] KZ (by exact(LG (hpp)))) rfl) (Zc (fun _ _ _=>Zq (Qi Ac (Ei 4)) rfl) As.nil)))))))) ?_
 intro θ _
 refine Yb [(5,_),(6,_),(11,_),(71,_),(72,_),(73,_),(84,J (((crF cr cd (smR cr cd i)).getD (k) 0)%p)),(85,Aa v1 1 ((hh+(k:Int):Int).toNat))] (_::_) ?_
 show G _ _ _ [_] _ _ _ _
 refine G.stepD0 (OD.storeInt rfl Ak rfl rfl (i:=4) rfl (by omega)) rfl rfl ?_
 refine Zn (GE.blockN (Zt (Zr ?_)))
 refine Zd (OD.addI rfl rfl rfl (by first | omega | (simp only[List.length_set,List.length_replicate];omega))) rfl ?_
 refine Zm rfl (Zn ?_)
 refine GE.ownEq (own':=ints 3 v33 (crF cr cd (smR cr cd i))::ints 3 v30 (Af (smR cr cd i) 1 (smR cr cd j))::opA (decide (smM cr cd+cr.toNat≤i)) (ints 3 v14 (smR cr cd i))::opA (decide (smM cr cd+cr.toNat≤j)) (ints 3 v18 (smR cr cd j))::ints 3 v1 (OJ cr cd p i (k+1))::box gn 3 [J (nn)]::box gr 64 [J (cr),vcd,vL,.map (some gmp)]::box gc 27 [J (cr),vcd]::box gh 3 [J (hh)]::box gp 3 [J (p)]::box gs 66 [J (cr),vcd,vLz,.map (some gmq),.map (some gqp),.map (some gk)]::memA gk cr cd::own) (by rw[← TO,hqk] <;> rfl) ?_
 exact Yg (k+1) (by omega) [] 0
 replace hc35:=of_decide_eq_false hc35
 refine GC.exit (Zp (Zp (GE.hit (GE.blockN (Zt (Zs (Zr ?_)))))))
 refine Zm rfl (Za rfl (Zn (Zt (GC.ret ?_))))
 exact GE.body [4,4,4,4,4,4,4,4] 4 (Ao rfl rfl) rfl (⟨v1,rfl,hs2,congrArg (fun l0=>ints 3 v1 l0::box gn 3 [J (nn)]::box gr 64 [J (cr),vcd,vL,.map (some gmp)]::box gc 27 [J (cr),vcd]::box gh 3 [J (hh)]::box gp 3 [J (p)]::box gs 66 [J (cr),vcd,vLz,.map (some gmq),.map (some gqp),.map (some gk)]::memA gk cr cd::own) (((congrArg _ (show k=cr.toNat by omega)).trans (aJ hS hHi hHj hi hj hc32):OJ cr cd p i k=rwF cr cd p i j))⟩)
 refine Zs (Ya [(3,_),(6,_),(7,_),(11,_),(12,_),(13,_)] ?_)
 refine Wp [Z0 88 (.agg #[J (cr),vcd,vL,.map (some gmp)]),Z0 89 v14,Z0 90 v18,⟨91,[(1,89),(2,90)],[],[],[3],fun ds=>((ds.getD 0 []).getD 0 undef),fun ds=>Ab ((ds.getD 0 []).getD 0 undef),fun ds=>[ints 3 ((ds.getD 0 []).getD 0 undef) (Af (smR cr cd i) 1 (smR cr cd j))]⟩,⟨92,[(0,88),(3,91)],[3],[],[3],fun _ => .bool (EL cr (A7 cr cd) (Af (smR cr cd i) 1 (smR cr cd j))),fun _=>True,fun _=>[]⟩] (Zc (fun _ _ _=>Zq (Qa Df 5 [_,_,_,_]) rfl) (Yv (Yv (Zc (fun _ _ _=>AR.plain (OG.imp (Yc [v14,J (1),v18] Gx (by exact(BQ hs11 (CK hHi hs13 (fun k hk=>by exact Ent.drop 11 ((mL k hk).app)) (k:=1) rfl) hs15 (CK hHj hs17 (fun k hk=>by exact Ent.drop 11 ((mL k hk).app)) (k:=2) rfl) (by omega) (by omega)))) (by rintro v36 _ ⟨_,rfl,hs37,rfl⟩;exact⟨[v36],rfl,hs37,rfl⟩)) rfl) (Zc (fun θ _ ⟨_,h3d,_⟩=>Zq (Yc [.agg #[J (cr),vcd,vL,.map (some gmp)],((θ 3).getD 0 undef)] QR (by exact(QV scd sL (Ent.drop 12 eL.app) (Ent.drop 12 hmp.app) h3d (Ei 0) (by omega) (Bn (DF hS hri)) (by rw[AQ];omega) ((Ent.drop 12 htab.app))))) rfl) As.nil))))) ?_
 intro θ hall
 obtain⟨_,_,_,h3a,_,_⟩:=hall
 refine Yb [(3,_),(6,_),(7,_),(11,_),(12,_),(13,_),(92,.bool (EL cr (A7 cr cd) (Af (smR cr cd i) 1 (smR cr cd j))))] (ints 3 ((θ 3).getD 0 undef) (Af (smR cr cd i) 1 (smR cr cd j))::_::_) ?_
 have hs38:Ab ((θ 3).getD 0 undef):=h3a
 clear h3a
 generalize ((θ 3).getD 0 undef)=v39 at *
 show G _ _ _ [_] _ _ _ _
 refine Za rfl (Zn (Zt ?_))
 refine GC.cond rfl (fun hc40=>?_) (fun hc40=>?_)
 have hrz:rtB (rSt cr cd) (Af (smR cr cd i) 1 (smR cr cd j))=true:=(Gq hS hri hrj).symm.trans hc40
 obtain⟨hix1,hix2,hix3⟩:=aD hS hri hrj hrz
 have hbn:=DD hS hri hrj
 refine Ya [(3,_),(6,_),(7,_),(11,_),(12,_),(13,_)] ?_
 refine Wp [Z0 93 v1,Z0 94 (.agg #[J (cr),vcd,vL,.map (some gmp)]),Z0 95 v14,Z0 96 v18,⟨97,[(2,95),(3,96)],[],[],[4],fun ds=>((ds.getD 0 []).getD 0 undef),fun ds=>Ab ((ds.getD 0 []).getD 0 undef),fun ds=>[ints 3 ((ds.getD 0 []).getD 0 undef) (Af (smR cr cd i) 1 (smR cr cd j))]⟩,⟨98,[(1,94),(4,97)],[4],[],[4],fun _=>J (fdI cr ((rSt cr cd).length) (A7 cr cd) (Af (smR cr cd i) 1 (smR cr cd j))),fun _=>True,fun _=>[]⟩,Z0 99 (.agg #[J (cr),vcd,vLz,.map (some gmq),.map (some gqp),.map (some gk)]),Z0 100 v14,Z0 101 v18,Z1 102 [(6,99),(7,100),(8,101)] (J (nF cr cd (smR cr cd i) (smR cr cd j))),Z0 103 (J (p)),Z1 104 [(9,102),(10,103)] (J ((nF cr cd (smR cr cd i) (smR cr cd j))%p)),⟨105,[(0,93),(5,98)],[4],[],[4],fun _=>Aa v1 1 ((fdI cr ((rSt cr cd).length) (A7 cr cd) (Af (smR cr cd i) 1 (smR cr cd j)):Int).toNat),fun _=>True,fun _=>[]⟩] (Yv (Zc (fun _ _ _=>Zq (Qa Df 6 [_,_,_,_]) rfl) (Yv (Yv (Zc (fun _ _ _=>AR.plain (OG.imp (Yc [v14,J (1),v18] Gx (by exact(BQ hs11 (CK hHi hs13 (fun k hk=>by exact Ent.drop 12 ((mL k hk).app)) (k:=2) rfl) hs15 (CK hHj hs17 (fun k hk=>by exact Ent.drop 12 ((mL k hk).app)) (k:=3) rfl) (by omega) (by omega)))) (by rintro v41 _ ⟨_,rfl,hs42,rfl⟩;exact⟨[v41],rfl,hs42,rfl⟩)) rfl) (Zc (fun θ _ ⟨_,h4d,_⟩=>Zq (Yc [.agg #[J (cr),vcd,vL,.map (some gmp)],((θ 4).getD 0 undef)] Va (by exact(M2 scd sL (Ent.drop 13 eL.app) (Ent.drop 13 hmp.app) h4d (Ei 0) (by omega) (Bn (DF hS hri)) (by rw[AQ];omega) ((Ent.drop 13 htab.app)) (by omega) (by omega) ((rtOk hS).fp _)))) rfl) (Zc (fun _ _ _=>Zq (Qa Db 10 [_,_,_,_,_,_]) rfl) (Yv (Yv (Zc (fun _ _ _=>Zq (Yc [.agg #[J (cr),vcd,vLz,.map (some gmq),.map (some gqp),.map (some gk)],v14,v18] Kc (by exact(Spec.atIdx (i:=11) rfl (eY (CQ (smR cr cd i) (smR cr cd j)+1) scd (Ent.drop 11 ecd.app) sLz (Ent.drop 11 eLz.app) (fun k hk=>(Ent.drop 11 ((mLz k hk).app))) lLz aLz (Ent.drop 11 hmq.app) (Ent.drop 11 hqp.app) hs11 (CK hHi hs13 (fun k hk=>by exact Ent.drop 11 ((mL k hk).app)) (k:=2) rfl) hs15 (CK hHj hs17 (fun k hk=>by exact Ent.drop 11 ((mL k hk).app)) (k:=3) rfl) (hS) (hri) (hrj) (by omega) ((Ent.drop 11 htab.app)))))) rfl) (Zc (fun _ _ _=>Zq (Ql Ak 9) rfl) (Zc (fun _ _ _=>Zq (Yc [J (nF cr cd (smR cr cd i) (smR cr cd j)),J (p)] KZ (by exact(LG (hpp)))) rfl) (Zc (fun _ _ _=>Zq (OD.indexAddr rfl Ac rfl (Ei 5) rfl (by first | omega | (simp only[List.length_set,List.length_replicate];omega))) rfl) As.nil))))))))))))) ?_
 intro θ hall
 obtain⟨_,_,_,_,h4a,_,_,_,_,_,_,_,_,_⟩:=hall
 refine Yb [(11,_),(104,J ((nF cr cd (smR cr cd i) (smR cr cd j))%p)),(105,Aa v1 1 ((fdI cr ((rSt cr cd).length) (A7 cr cd) (Af (smR cr cd i) 1 (smR cr cd j)):Int).toNat))] (ints 3 ((θ 4).getD 0 undef) (Af (smR cr cd i) 1 (smR cr cd j))::_::_) ?_
 have hs43:Ab ((θ 4).getD 0 undef):=h4a
 clear h4a
 generalize ((θ 4).getD 0 undef)=v44 at *
 show G _ _ _ [_] _ _ _ _
 refine G.stepD0 (OD.storeInt rfl Ak rfl rfl (i:=5) rfl (by first | omega | (simp only[List.length_set,List.length_replicate];omega))) rfl rfl ?_
 refine Zn (GE.blockN (Zt (Zs (Zr ?_))))
 refine Zm rfl (Za rfl (Zn (Zt (GC.ret ?_))))
 exact GE.body [5,5,5,5,5,5,5,5] 5 (Ao rfl rfl) rfl (⟨v1,rfl,hs2,congrArg (fun l0=>ints 3 v1 l0::box gn 3 [J (nn)]::box gr 64 [J (cr),vcd,vL,.map (some gmp)]::box gc 27 [J (cr),vcd]::box gh 3 [J (hh)]::box gp 3 [J (p)]::box gs 66 [J (cr),vcd,vLz,.map (some gmq),.map (some gqp),.map (some gk)]::memA gk cr cd::own) ((fC hS hHi hHj hi hj hc32 ((Gq hS hri hrj).symm.trans hc40):(List.replicate (smN cr cd) 0).set ((fdI cr ((rSt cr cd).length) (A7 cr cd) (Af (smR cr cd i) 1 (smR cr cd j)):Int).toNat) ((nF cr cd (smR cr cd i) (smR cr cd j))%p)=rwF cr cd p i j))⟩)
 refine Zk (GE.blockN (Zt (Zs (Zr ?_))))
 refine Zm rfl (Za rfl (Zn (Zt (GC.ret ?_))))
 exact GE.body [4,4,4,4,4,4,4,4] 4 (Ao rfl rfl) rfl (⟨v1,rfl,hs2,congrArg (fun l0=>ints 3 v1 l0::box gn 3 [J (nn)]::box gr 64 [J (cr),vcd,vL,.map (some gmp)]::box gc 27 [J (cr),vcd]::box gh 3 [J (hh)]::box gp 3 [J (p)]::box gs 66 [J (cr),vcd,vLz,.map (some gmq),.map (some gqp),.map (some gk)]::memA gk cr cd::own) ((aH hS hHi hHj hi hj hc32 ((Gq hS hri hrj).symm.trans hc40):List.replicate (smN cr cd) 0=rwF cr cd p i j))⟩)
theorem R8 {W:World}{own:List Asn}{pz:Int}{nz:Int}{gn gr gc gh gp gs gk:Nat}{nn hh p cr:Int}{vcd:Value}{cd:List Int}{vL:Value}{uL:List Value}{gmp:Nat}{vLz:Value}{uLz:List Value}{gmq:Nat}{gqp:Nat}(scd:Ab vcd)(ecd:Ent own fun w=>Ints w vcd cd)(sL:Ab vL)(eL:Ent own fun w=>Sl w vL (rSt cr cd).length 1 uL)(mL:∀ k,k<(rSt cr cd).length→Ent own fun w=>Ints w (uL.getD k undef) ((rSt cr cd).getD k []))(lL:uL.length=(rSt cr cd).length)(aL:AllS uL)(hmp:Ent own (BO Bc valI gmp (A7 cr cd)))(sLz:Ab vLz)(eLz:Ent own fun w=>Sl w vLz (rSt cr cd).length 1 uLz)(mLz:∀ k,k<(rSt cr cd).length→Ent own fun w=>Ints w (uLz.getD k undef) ((rSt cr cd).getD k []))(lLz:uLz.length=(rSt cr cd).length)(aLz:AllS uLz)(hmq:Ent own (BO Bc valI gmq (A7 cr cd)))(hqp:Ent own (BO Bc valI gqp (Lg cr cd)))(hS:(Ax cr cd).isSome=true)(hN:nn=(smN cr cd:Nat))(hH:hh=(smM cr cd:Nat))(h28:smN cr cd≤28)(hpp:1≤p∧p≤1000000)(htab:Ent own Cm)(hpz:pz=p)(hnz:nz=(smN cr cd:Nat)):Spec Tryz.prog 62 [J (pz),J (nz),.func (.func 63) #[] #[Pg gn 0,Pg gr 0,Pg gc 0,Pg gh 0,Pg gp 0,Pg gs 0]] W (box gn 3 [J (nn)]::box gr 64 [J (cr),vcd,vL,.map (some gmp)]::box gc 27 [J (cr),vcd]::box gh 3 [J (hh)]::box gp 3 [J (p)]::box gs 66 [J (cr),vcd,vLz,.map (some gmq),.map (some gqp),.map (some gk)]::memA gk cr cd::own) (fun v ow=>∃ (r2:Value),v = .agg #[J (pz),J (nz),r2]∧Ab r2∧ow=ints 3 r2 (EG cr cd p)::box gn 3 [J (nn)]::box gr 64 [J (cr),vcd,vL,.map (some gmp)]::box gc 27 [J (cr),vcd]::box gh 3 [J (hh)]::box gp 3 [J (p)]::box gs 66 [J (cr),vcd,vLz,.map (some gmq),.map (some gqp),.map (some gk)]::memA gk cr cd::own):=by
 have hcr:=(AB hS).1
 have hcd:=(AB hS).2
 have hMl:smM cr cd=(rSt cr cd).length:=rfl
 have hNl:smN cr cd=2*smM cr cd+cr.toNat:=rfl
 have hr4:=(rtOk hS).rk
 have hlo:=(rtOk hS).lo
 have hRf:(rSt cr cd).length≤30:=by have h1:=(rtOk hS).slen;have h2:=(rtOk hS).few;omega
 have hcu:=(HR h28).2
 have hrl:=fun i j=>F5 (n:=cr) (d:=cd) (p:=p) i j
 refine Spec.enter Tryz.f62 _ Tryz.func62 rfl (n:=72) rfl rfl ?_
 refine Zs (Zr (Yt (OG.alloc rfl Bj (zs:=[J (0),J (0),.slice none 0 0]) rfl) ?_))
 rintro _ _ ⟨g1,rfl,rfl⟩
 refine Zn (Zt (Zs (Zr (Zm rfl (Zm rfl (Zm rfl (Zm rfl (Zd CN rfl ?_))))))))
 refine Zm rfl (Zd (OD.eqv CN (congrArg (Value.int .i64) ((by rw[hnz];exact(HR h28).1):(IntKind.i64.wrap ((IntKind.i64.wrap (nz*nz))*nz):Int)=(((smN cr cd*smN cr cd*smN cr cd:Nat):Int))))) rfl ?_)
 refine Yt (OG.makeInts rfl Ac rfl rfl (by omega)) ?_
 rintro v2 _ ⟨hs3,rfl⟩
 refine Zd (OD.build (idx:=[0,1,2]) (xs:=[.tmp 12,.tmp 13,.tmp 19]) (vs:=[J (pz),J (nz),v2]) (cs:=[[J (pz)],[J (nz)],[v2]]) (zs:=[J (0),J (0),.slice none 0 0]) (r:=[J (pz),J (nz),v2]) rfl Bj rfl rfl rfl ⟨rfl,⟨rfl,⟨(AN (Ab.one hs3)),trivial⟩⟩⟩ rfl) rfl ?_
 refine Yt (OG.alloc rfl Bj (zs:=[J (0),J (0),.slice none 0 0]) rfl) ?_
 rintro _ _ ⟨g4,rfl,rfl⟩
 refine Yu Bj [J (pz),J (nz),v2] 0 (Ad rfl (Ad rfl (Ad (Ab.one hs3) rfl))) ?_
 refine Zn (Zt (Zs (Zs (GC.ownEq (own':=box g4 43 [J (pz),J (nz),v2]::ints 3 v2 (List.replicate (smN cr cd*smN cr cd*smN cr cd) 0)::box g1 43 [J (0),J (0),.slice none 0 0]::box gn 3 [J (nn)]::box gr 64 [J (cr),vcd,vL,.map (some gmp)]::box gc 27 [J (cr),vcd]::box gh 3 [J (hh)]::box gp 3 [J (p)]::box gs 66 [J (cr),vcd,vLz,.map (some gmq),.map (some gqp),.map (some gk)]::memA gk cr cd::own) (rfl) ?_))))
 refine Zr (Zm rfl (Zm rfl (Zn (Zt (GC.block ?_)))))
 refine Yl (ι:=Nat × List Int) (fun⟨i,ys⟩=>[(0,J (pz)),(1,J (nz)),(2,.func (.func 63) #[] #[Pg gn 0,Pg gr 0,Pg gc 0,Pg gh 0,Pg gp 0,Pg gs 0]),(6,Pg g1 0),(7,Pg g4 0),(21,J (nz)),(22,J ((i:Int)))]) (fun⟨i,ys⟩=>box g4 43 [J (pz),J (nz),v2]::ints 3 v2 ys::box g1 43 [J (0),J (0),.slice none 0 0]::box gn 3 [J (nn)]::box gr 64 [J (cr),vcd,vL,.map (some gmp)]::box gc 27 [J (cr),vcd]::box gh 3 [J (hh)]::box gp 3 [J (p)]::box gs 66 [J (cr),vcd,vLz,.map (some gmq),.map (some gqp),.map (some gk)]::memA gk cr cd::own) (fun⟨i,ys⟩=>(i≤smN cr cd)∧(KF cr cd p i 0 0 ys)) (fun⟨i,ys⟩=>smN cr cd - i) (0,List.replicate (smN cr cd*smN cr cd*smN cr cd) 0) (⟨by omega,KF.new⟩) [] 0 ?_
 rintro⟨i,ys⟩ ⟨hi,hT0⟩
 refine Zs (Zr (Zd Bb rfl ?_))
 refine Zn (Zt (Zs ?_))
 refine GC.cond rfl (fun hc5=>?_) (fun hc5=>?_)
 replace hc5:=of_decide_eq_true hc5
 refine Zk (Zt (Zs (GC.block (Zs (Zr ?_)))))
 refine Zm rfl (Za rfl (Zn (Zt (Zs (Zr (Zm rfl (Zm rfl (Zn (Zt (GC.block ?_))))))))))
 refine Yl (ι:=Nat × List Int) (fun⟨j,zs⟩=>[(0,J (pz)),(1,J (nz)),(2,.func (.func 63) #[] #[Pg gn 0,Pg gr 0,Pg gc 0,Pg gh 0,Pg gp 0,Pg gs 0]),(6,Pg g1 0),(7,Pg g4 0),(21,J (nz)),(22,J ((i:Int))),(8,J ((i:Int))),(25,J ((i:Int))),(26,J ((j:Int)))]) (fun⟨j,zs⟩=>box g4 43 [J (pz),J (nz),v2]::ints 3 v2 zs::box g1 43 [J (0),J (0),.slice none 0 0]::box gn 3 [J (nn)]::box gr 64 [J (cr),vcd,vL,.map (some gmp)]::box gc 27 [J (cr),vcd]::box gh 3 [J (hh)]::box gp 3 [J (p)]::box gs 66 [J (cr),vcd,vLz,.map (some gmq),.map (some gqp),.map (some gk)]::memA gk cr cd::own) (fun⟨j,zs⟩=>(j≤i)∧(KF cr cd p i j 0 zs)) (fun⟨j,zs⟩=>i - j) (0,ys) (⟨by omega,hT0⟩) [] 0 ?_
 rintro⟨j,zs⟩ ⟨hj,hT1⟩
 refine Zs (Zr (Zd Bb rfl ?_))
 refine Zn (Zt (Zs ?_))
 refine GC.cond rfl (fun hc6=>?_) (fun hc6=>?_)
 replace hc6:=of_decide_eq_true hc6
 refine Zk (Zt (Zs (GC.block (Zs (Zr ?_)))))
 refine Zm rfl (Za rfl (Zn (Zt (Zs (Zr (Zm rfl (Zm rfl (Zm rfl (Yp [3,3,3,3,3,3,3] (_::_::_::_::_::_::_::_::_::_::own) ?_)))))))))
 refine Yt (Yc [J ((i:Int)),J ((j:Int)),Pg gn 0,Pg gr 0,Pg gc 0,Pg gh 0,Pg gp 0,Pg gs 0] fF (by exact(fx scd (Ent.drop 3 ecd) sL (Ent.drop 3 eL) (fun k hk=>(Ent.drop 3 (mL k hk))) lL aL (Ent.drop 3 hmp) sLz (Ent.drop 3 eLz) (fun k hk=>(Ent.drop 3 (mLz k hk))) lLz aLz (Ent.drop 3 hmq) (Ent.drop 3 hqp) (hS) (hN) (hH) (h28) (hpp) ((Ent.drop 3 htab)) (by omega) (by omega)))) ?_
 rintro v7 _ ⟨_,rfl,hs8,rfl⟩
 refine Zd (Qn Ac (Ei 0)) rfl ?_
 refine Zm rfl (Zn (Zt (GC.block ?_)))
 refine Yl (ι:=Nat × List Int) (fun⟨k,us⟩=>[(0,J (pz)),(1,J (nz)),(2,.func (.func 63) #[] #[Pg gn 0,Pg gr 0,Pg gc 0,Pg gh 0,Pg gp 0,Pg gs 0]),(6,Pg g1 0),(7,Pg g4 0),(21,J (nz)),(22,J ((i:Int))),(8,J ((i:Int))),(25,J ((i:Int))),(26,J ((j:Int))),(9,J ((j:Int))),(32,v7),(33,J (((rwF cr cd p i j).length:Nat))),(34,J ((k:Int)))]) (fun⟨k,us⟩=>ints 3 v7 (rwF cr cd p i j)::box gn 3 [J (nn)]::box gr 64 [J (cr),vcd,vL,.map (some gmp)]::box gc 27 [J (cr),vcd]::box gh 3 [J (hh)]::box gp 3 [J (p)]::box gs 66 [J (cr),vcd,vLz,.map (some gmq),.map (some gqp),.map (some gk)]::memA gk cr cd::box g4 43 [J (pz),J (nz),v2]::ints 3 v2 us::box g1 43 [J (0),J (0),.slice none 0 0]::own) (fun⟨k,us⟩=>(k≤smN cr cd)∧(KF cr cd p i j k us)) (fun⟨k,us⟩=>smN cr cd - k) (0,zs) (⟨by omega,hT1⟩) [] 0 ?_
 rintro⟨k,us⟩ ⟨hk,hT2⟩
 refine Zs ?_
 have hrlk:=hrl i j
 refine Zr (Zd Bb rfl ?_)
 refine Zn (Zt (Zs ?_))
 refine GC.cond rfl (fun hc9=>?_) (fun hc9=>?_)
 replace hc9:=of_decide_eq_true hc9
 refine Zk (Zt (Zs (GC.block (Zs (Zr ?_)))))
 refine Zm rfl (Zd (Qi Ac (Ei 0)) rfl ?_)
 refine Zd (Qv Ak (Ei 0)) rfl ?_
 refine Za rfl (Za rfl (Zn (Zt (Zs ?_))))
 obtain⟨q1,hq1⟩:∃ q1:Nat,q1=(i*smN cr cd+j)*smN cr cd+k:=⟨_,rfl⟩
 obtain⟨q2,hq2⟩:∃ q2:Nat,q2=(j*smN cr cd+i)*smN cr cd+k:=⟨_,rfl⟩
 obtain⟨hqe1,hql1⟩:=fS h28 (show i<smN cr cd by omega) (show j<smN cr cd by omega) (show k<smN cr cd by omega) hq1
 obtain⟨hqe2,hql2⟩:=fS h28 (show j<smN cr cd by omega) (show i<smN cr cd by omega) (show k<smN cr cd by omega) hq2
 have hul:=hT2.len
 have hrb:=eX (n:=cr) (d:=cd) (p:=p) (i:=i) (j:=j) (k:=k) (by omega)
 have hrb2:0≤(rwF cr cd p i j).getD ((k:Int)).toNat 0∧(rwF cr cd p i j).getD ((k:Int)).toNat 0<p:=hrb
 refine Zr (Zd (Qf GH) rfl ?_)
 refine Zd (Ql AH 8) rfl ?_
 refine Zm rfl (Zm rfl (Zd CN rfl ?_))
 refine Zm rfl (Zd Ha rfl ?_)
 refine Zm rfl (Zd CN rfl ?_)
 refine Zm rfl (Zd (OD.eqv Ha (congrArg (Value.int .i64) ((by rw[hnz];exact hqe1):(IntKind.i64.wrap ((IntKind.i64.wrap ((IntKind.i64.wrap ((IntKind.i64.wrap ((i:Int)*nz))+(j:Int)))*nz))+(k:Int)):Int)=((q1:Int))))) rfl ?_)
 refine Zm rfl (Zd (Qi Ac (Ei 9)) rfl ?_)
 refine G.stepD0 (OD.storeInt rfl Ak rfl rfl (i:=9) rfl (by omega)) rfl rfl ?_
 refine Zn (Zt (Ya [(0,_),(1,_),(2,_),(6,_),(7,_),(21,_),(22,_),(8,_),(25,_),(26,_),(9,_),(32,_),(33,_),(34,_),(10,_),(11,_)] ?_))
 refine Wp [Z0 52 (Pg g4 2),Z1 53 [(0,52)] v2,Z0 54 (J ((j:Int))),Z0 55 (J (nz)),Z1 56 [(2,54),(3,55)] (J (IntKind.i64.wrap ((j:Int)*nz))),Z0 57 (J ((i:Int))),Z1 58 [(4,56),(5,57)] (J (IntKind.i64.wrap ((IntKind.i64.wrap ((j:Int)*nz))+(i:Int)))),Z0 59 (J (nz)),Z1 60 [(6,58),(7,59)] (J (IntKind.i64.wrap ((IntKind.i64.wrap ((IntKind.i64.wrap ((j:Int)*nz))+(i:Int)))*nz))),Z0 61 (J ((k:Int))),Z1 62 [(8,60),(9,61)] (J ((q2:Int))),Z0 63 (J ((rwF cr cd p i j).getD (k) 0)),Z1 64 [(11,63)] (J (0 - (rwF cr cd p i j).getD (k) 0)),Z0 65 (J (pz)),Z1 66 [(12,64),(13,65)] (J ((0 - (rwF cr cd p i j).getD (k) 0)%pz)),Z1 67 [(1,53),(10,62)] (Aa v2 1 (q2))] (Zc (fun _ _ _=>Zq (Qf GH) rfl) (Zc (fun _ _ _=>Zq (Ql AH 8) rfl) (Yv (Yv (Zc (fun _ _ _=>Zq CN rfl) (Yv (Zc (fun _ _ _=>Zq Ha rfl) (Yv (Zc (fun _ _ _=>Zq CN rfl) (Yv (Zc (fun _ _ _=>Zq (OD.eqv Ha (congrArg (Value.int .i64) ((by rw[hnz];exact hqe2):(IntKind.i64.wrap ((IntKind.i64.wrap ((IntKind.i64.wrap ((IntKind.i64.wrap ((j:Int)*nz))+(i:Int)))*nz))+(k:Int)):Int)=((q2:Int))))) rfl) (Yv (Zc (fun _ _ _=>Zq (OD.negI rfl rfl (by first | omega | (simp only[List.length_set,List.length_replicate];omega))) rfl) (Yv (Zc (fun _ _ _=>Zq (Yc [J (0 - (rwF cr cd p i j).getD (k) 0),J (pz)] KZ (by exact(LG (by omega)))) rfl) (Zc (fun _ _ _=>Zq (OD.indexAddr rfl Ac rfl (Ei 9) rfl (by first | omega | (simp only[List.length_set,List.length_replicate];omega))) rfl) As.nil)))))))))))))))) ?_
 intro θ _
 refine Yb [(0,_),(1,_),(2,_),(6,_),(7,_),(21,_),(22,_),(8,_),(25,_),(26,_),(9,_),(32,_),(33,_),(34,_),(66,J ((0 - (rwF cr cd p i j).getD (k) 0)%pz)),(67,Aa v2 1 (q2))] (_::_) ?_
 show G _ _ _ [_] _ _ _ _
 refine G.stepD0 (OD.storeInt rfl Ak rfl rfl (i:=9) rfl (by first | omega | (simp only[List.length_set,List.length_replicate];omega))) rfl rfl ?_
 refine Zn (GE.blockN (Zt (Zr ?_)))
 refine Zd (OD.addI rfl rfl rfl (by first | omega | (simp only[List.length_set,List.length_replicate];omega))) rfl ?_
 exact Zm rfl (Zn (Yg (k+1,((us).set (q1) ((rwF cr cd p i j).getD (k) 0)).set (q2) ((0 - (rwF cr cd p i j).getD (k) 0)%pz)) (⟨by omega,hT2.stepq hS (by omega) (by omega) (by omega) hq1 hq2 (Gm (by omega)) (by rw[hpz])⟩) [] 0))
 replace hc9:=of_decide_eq_false hc9
 refine GC.exit (Zp (Zp (GE.hit (GE.blockN (Zt (Zr ?_))))))
 refine Zd Qp rfl ?_
 exact Zm rfl (Zn (Yg (j+1,us) (⟨by omega,KF.next ((show k=smN cr cd by omega) ▸ hT2)⟩) [8,8,8,1,1,1,1,1,1,1] 1))
 replace hc6:=of_decide_eq_false hc6
 refine GC.exit (Zp (Zp (GE.hit (GE.blockN (Zt (Zr ?_))))))
 refine Zd Qp rfl ?_
 exact Zm rfl (Zn (Yg (i+1,zs) (⟨by omega,KF.row hS (by omega) ((show j=i by omega) ▸ hT1)⟩) [] 0))
 replace hc5:=of_decide_eq_false hc5
 refine GC.exit (Zp (Zp (GE.hit (Zt (Zs (Zr ?_))))))
 refine Zd (Qa Bj 0 [_,_,_]) rfl ?_
 refine Yu Bj [J (pz),J (nz),v2] 2 (Ad rfl (Ad rfl (Ad (Ab.one hs3) rfl))) ?_
 refine Zn (Zt (GC.ret ?_))
 exact GE.body [1,2,2,2,2,2,2,2] 2 (AZ rfl (RVs.cons (Ag Bj rfl (i:=2) rfl rfl) RVs.nil) rfl) rfl (⟨v2,rfl,hs3,congrArg (fun l0=>ints 3 v2 l0::box gn 3 [J (nn)]::box gr 64 [J (cr),vcd,vL,.map (some gmp)]::box gc 27 [J (cr),vcd]::box gh 3 [J (hh)]::box gp 3 [J (p)]::box gs 66 [J (cr),vcd,vLz,.map (some gmq),.map (some gqp),.map (some gk)]::memA gk cr cd::own) ((KF.end_ ((show i=smN cr cd by omega) ▸ hT0):ys=EG cr cd p))⟩)
theorem Lh {W:World}{own:List Asn}{cr:Int}{vcd:Value}{cd:List Int}{p:Int}(scd:Ab vcd)(ecd:Ent own fun w=>Ints w vcd cd)(hl0:cd.length≤1073741824)(hg:Ent own fun w=>∃ m,w.cell? ⟨Tryz.l146_ren.g 1,0,none⟩=some (.int .i64 m))(htab:Ent own Cm):Spec Tryz.prog 24 [.agg #[J (cr),vcd],J (p)] W own (fun v ow=>∃ (r2:Value),v = .tuple #[.agg #[J (Cn cr cd p),J (Bo cr cd p),r2],.bool (Bq cr cd p)]∧Ab r2∧ow=ints 3 r2 (DJ cr cd p)::own):=by
 refine Spec.enter Tryz.f24 _ Tryz.func24 rfl (n:=40) rfl rfl ?_
 refine Zs (Zr (Yt (OG.box (cs:=[J (cr),vcd]) rfl rfl rfl) ?_))
 rintro _ _ ⟨g1,rfl,rfl⟩
 refine Yt (OG.box (cs:=[J (p)]) rfl rfl rfl) ?_
 rintro _ _ ⟨g2,rfl,rfl⟩
 refine Yt (OG.alloc rfl Bj (zs:=[J (0),J (0),.slice none 0 0]) rfl) ?_
 rintro _ _ ⟨g3,rfl,rfl⟩
 refine Za rfl (Zn (Zt (Zs (Zs (Zr (Zd (Qa An 2 [_,_]) rfl ?_))))))
 refine Yt (Yc [.agg #[J (cr),vcd]] eC (by exact(O1 scd (Ent.drop 3 ecd) (hl0) ((Ent.drop 3 hg))))) ?_
 rintro _ _ ⟨rfl,rfl⟩
 refine Zd (OD.not rfl rfl) rfl ?_
 refine Zm rfl ?_
 rcases Bool.eq_false_or_eq_true (!((Ax cr cd).isSome)) with hg4 | hg4
 have hg4e:=hg4
 rw[hg4e]
 replace hg4:=Ai hg4
 iterate 3 refine Yk ?_
 refine Zd (OD.pickT rfl rfl rfl) rfl ?_
 refine Zn (Zt (GC.condT rfl (Zs (Zr ?_))))
 refine Zd (OD.build (idx:=[]) (xs:=[]) (vs:=[]) (cs:=[]) (zs:=[J (0),J (0),.slice none 0 0]) (r:=[J (0),J (0),.slice none 0 0]) rfl Bj rfl rfl rfl trivial rfl) rfl ?_
 refine Yu Bj [J (0),J (0),.slice none 0 0] 0 rfl ?_
 refine Za rfl (Zn (Zt (GC.ret (GE.passR ?_))))
 refine GE.nilInts 3 ?_
 exact GE.body [0] 3 (AZ rfl (RVs.cons (Ag Bj rfl (i:=1) rfl rfl) (RVs.cons (AD rfl) RVs.nil)) rfl) rfl (⟨(.slice none 0 0),congr (congr (congrArg (fun a0 a1 a3=>(.tuple #[.agg #[J (a0),J (a1),(.slice none 0 0)],.bool (a3)]:Value)) ((by rw[Cn,(show Bq cr cd p=false by simp[Bq,hg4])] <;> rfl:(0:Int)=Cn cr cd p))) ((by rw[Bo,(show Bq cr cd p=false by simp[Bq,hg4])] <;> rfl:(0:Int)=Bo cr cd p))) (((show Bq cr cd p=false by simp[Bq,hg4]).symm:(false:Bool)=Bq cr cd p)),Ab.nil,congrArg (fun l0=>ints 3 (.slice none 0 0) l0::own) ((by rw[DJ,(show Bq cr cd p=false by simp[Bq,hg4])] <;> rfl : []=DJ cr cd p))⟩)
 have hg4e:=hg4
 rw[hg4e]
 replace hg4:=Am hg4
 refine Yd (Ql Ak 1) ?_
 refine Ye (Yc [J (p)] UX (by exact LZ)) ?_
 rintro _ _ ⟨rfl,rfl⟩
 refine Yd (OD.not rfl rfl) ?_
 refine Zd (OD.pickF rfl rfl rfl) rfl ?_
 refine Zn (Zt ?_)
 refine GC.cond rfl (fun hc5=>?_) (fun hc5=>?_)
 replace hc5:=Ai hc5
 refine Zs (Zr (Zd (OD.build (idx:=[]) (xs:=[]) (vs:=[]) (cs:=[]) (zs:=[J (0),J (0),.slice none 0 0]) (r:=[J (0),J (0),.slice none 0 0]) rfl Bj rfl rfl rfl trivial rfl) rfl ?_))
 refine Yu Bj [J (0),J (0),.slice none 0 0] 0 rfl ?_
 refine Za rfl (Zn (Zt (GC.ret (GE.passR ?_))))
 refine GE.nilInts 3 ?_
 exact GE.body [0] 3 (AZ rfl (RVs.cons (Ag Bj rfl (i:=1) rfl rfl) (RVs.cons (AD rfl) RVs.nil)) rfl) rfl (⟨(.slice none 0 0),congr (congr (congrArg (fun a0 a1 a3=>(.tuple #[.agg #[J (a0),J (a1),(.slice none 0 0)],.bool (a3)]:Value)) ((by rw[Cn,(show Bq cr cd p=false by simp[Bq,hg4,hc5])] <;> rfl:(0:Int)=Cn cr cd p))) ((by rw[Bo,(show Bq cr cd p=false by simp[Bq,hg4,hc5])] <;> rfl:(0:Int)=Bo cr cd p))) (((show Bq cr cd p=false by simp[Bq,hg4,hc5]).symm:(false:Bool)=Bq cr cd p)),Ab.nil,congrArg (fun l0=>ints 3 (.slice none 0 0) l0::own) ((by rw[DJ,(show Bq cr cd p=false by simp[Bq,hg4,hc5])] <;> rfl : []=DJ cr cd p))⟩)
 replace hc5:=Am hc5
 have hS:=hg4
 have hPr:=hc5
 have hpr:=AU hPr
 have hcr:=(AB hS).1
 have hcd:=(AB hS).2
 have hMl:smM cr cd=(rSt cr cd).length:=rfl
 have hNl:smN cr cd=2*smM cr cd+cr.toNat:=rfl
 have hr4:=(rtOk hS).rk
 have hlo:=(rtOk hS).lo
 have hRf:(rSt cr cd).length≤30:=by have h1:=(rtOk hS).slen;have h2:=(rtOk hS).few;omega
 refine Zk (Zt (Zs (Zr (Zd (Qa An 2 [_,_]) rfl ?_))))
 refine Yt (Yc [.agg #[J (cr),vcd]] T9 (by exact(FV scd (Ent.drop 3 ecd) (hcr) (hcd) (hS) ((Ent.drop 3 htab))))) ?_
 rintro _ _ ⟨v6,u7,g11,rfl,hs8,hs9,hs10,rfl⟩
 refine Yt (OG.alloc rfl Df (zs:=[J (0),.slice none 0 0,.slice none 0 0,.map none]) rfl) ?_
 rintro _ _ ⟨g12,rfl,rfl⟩
 refine Yu Df [J (cr),vcd,v6,.map (some g11)] 0 (Ad rfl (Ad (Ab.one scd) (Ad (Ab.one hs8) (Ad rfl rfl)))) ?_
 refine Zn (Zt (Zs (Zr (Zd (Qf BR) rfl ?_))))
 refine Zd (Ql DZ 0) rfl ?_
 refine Zd (Qn AM (Ent.lst (i:=1) rfl)) rfl ?_
 refine Zd Qm rfl ?_
 refine Zd (Qf Aq) rfl ?_
 refine Zd (Ql Ak 6) rfl ?_
 refine Zd Qp rfl ?_
 refine Yt (OG.alloc rfl Ak (zs:=[J (0)]) rfl) ?_
 rintro _ _ ⟨g13,rfl,rfl⟩
 refine Yu Ak [J ((2*(u7.length:Nat))+cr)] 0 rfl ?_
 refine Zn (Zt (Zs (Zs (Zr (Zd (Ql Ak 0) rfl ?_)))))
 refine Zd (OD.gtr rfl rfl rfl) rfl ?_
 refine Zn (Zt ?_)
 refine GC.cond rfl (fun hc14=>?_) (fun hc14=>?_)
 replace hc14:=of_decide_eq_true hc14
 have hOk:Bq cr cd p=false:=by rw[Bq,hS,hPr,decide_eq_false (by omega)] <;> rfl
 refine Zs (Zr (Zd (OD.build (idx:=[]) (xs:=[]) (vs:=[]) (cs:=[]) (zs:=[J (0),J (0),.slice none 0 0]) (r:=[J (0),J (0),.slice none 0 0]) rfl Bj rfl rfl rfl trivial rfl) rfl ?_))
 refine Yu Bj [J (0),J (0),.slice none 0 0] 5 rfl ?_
 refine Za rfl (Zn (Zt (GC.ret (GE.passR ?_))))
 refine GE.nilInts 3 ?_
 exact GE.body [0] 8 (AZ rfl (RVs.cons (Ag Bj rfl (i:=6) rfl rfl) (RVs.cons (AD rfl) RVs.nil)) rfl) rfl (⟨(.slice none 0 0),congr (congr (congrArg (fun a0 a1 a3=>(.tuple #[.agg #[J (a0),J (a1),(.slice none 0 0)],.bool (a3)]:Value)) ((by rw[Cn,hOk] <;> rfl:(0:Int)=Cn cr cd p))) ((by rw[Bo,hOk];first | rfl | (simp only[if_true];omega):(0:Int)=Bo cr cd p))) ((hOk.symm:(false:Bool)=Bq cr cd p)),Ab.nil,congrArg (fun l0=>ints 3 (.slice none 0 0) l0::own) ((by rw[DJ,hOk] <;> rfl : []=DJ cr cd p))⟩)
 replace hc14:=of_decide_eq_false hc14
 have hOk:Bq cr cd p=true:=by rw[Bq,hS,hPr,decide_eq_true (by omega)] <;> rfl
 refine Zk (Zt (Zs (Zr (Zd (Qa An 7 [_,_]) rfl ?_))))
 refine Yt (Yc [.agg #[J (cr),vcd]] dD (by exact(KA scd (Ent.drop 8 ecd) (hS) ((Ent.drop 8 htab))))) ?_
 rintro _ _ ⟨v15,u16,g20,g21,g22,rfl,hs17,hs18,hs19,rfl⟩
 refine Yt (OG.alloc rfl Db (zs:=[J (0),.slice none 0 0,.slice none 0 0,.map none,.map none,.map none]) rfl) ?_
 rintro _ _ ⟨g23,rfl,rfl⟩
 refine Yu Db [J (cr),vcd,v15,.map (some g20),.map (some g21),.map (some g22)] 0 (Ad rfl (Ad (Ab.one scd) (Ad (Ab.one hs17) (Ad rfl (Ad rfl (Ad rfl rfl)))))) ?_
 refine Zn (Zt (Zs (Zr (Zd (Qf BR) rfl ?_))))
 refine Zd (Ql DZ 7) rfl ?_
 refine Zd (Qn AM (Ent.lst (i:=8) rfl)) rfl ?_
 refine Yt (OG.alloc rfl Ak (zs:=[J (0)]) rfl) ?_
 rintro _ _ ⟨g24,rfl,rfl⟩
 refine Yu Ak [J ((u7.length:Nat))] 0 rfl ?_
 refine Zn (Zt (Zs (Yq [6,0,0,0,0,0,0,0,0,0,0,0,0,0,0] (_::_::_::_::_::_::_::_::_::_::_::_::_::_::_::own) ?_)))
 refine GC.memClose (n:=cr) (d:=cd) (Fx.nil) ?_
 refine Zr (Zd (Ql Ak 13) rfl ?_)
 refine Zd (Ql Ak 7) rfl ?_
 refine Zd (OD.makeFunc (first:=[]) (captured:=[.tmp 7,.tmp 6,.tmp 2,.tmp 9,.tmp 3,.tmp 8]) (us:=[]) (vs:=[Pg g13 0,Pg g12 0,Pg g1 0,Pg g24 0,Pg g2 0,Pg g23 0]) rfl rfl rfl) rfl ?_
 refine Yp [7,7,12,1,10,1,0] (_::_::_::_::_::_::_::_::_::_::_::_::_::_::_::own) ?_
 refine Yt (Yc [J (p),J ((2*(u7.length:Nat))+cr),.func (.func 63) #[] #[Pg g13 0,Pg g12 0,Pg g1 0,Pg g24 0,Pg g2 0,Pg g23 0]] fk (by exact(R8 scd (Ent.drop 8 ecd) hs8 (Ent.len (Ent.lst (i:=4) rfl) (by omega)) (fun k hk=>Ent.manyInts (i:=5) (k:=k) rfl ⟨by omega,hk⟩) (by omega) hs9 (Ent.map (kE:=Bc) (vE:=valI) (l:=A7 cr cd) (i:=6) rfl) hs17 (Ent.len (Ent.lst (i:=0) rfl) (by omega)) (fun k hk=>Ent.manyInts (i:=1) (k:=k) rfl ⟨by omega,hk⟩) (by omega) hs18 (Ent.map (kE:=Bc) (vE:=valI) (l:=A7 cr cd) (i:=2) rfl) (Ent.map (kE:=Bc) (vE:=valI) (l:=Lg cr cd) (i:=3) rfl) (hS) (by omega) (by omega) (by omega) (by omega) ((Ent.drop 8 htab)) (rfl) (by omega)))) ?_
 rintro _ _ ⟨v25,rfl,hs26,rfl⟩
 refine Yu Bj [J (p),J ((2*(u7.length:Nat))+cr),v25] 15 (Ad rfl (Ad rfl (Ad (Ab.one hs26) rfl))) ?_
 refine Za rfl (Zn (Zt (GC.ret ?_)))
 exact GE.body [0] 15 (AZ rfl (RVs.cons (Ag Bj rfl (i:=15) rfl rfl) (RVs.cons (AD rfl) RVs.nil)) rfl) rfl (⟨v25,congr (congr (congrArg (fun a0 a1 a3=>(.tuple #[.agg #[J (a0),J (a1),v25],.bool (a3)]:Value)) ((by rw[Cn,hOk] <;> rfl:(p:Int)=Cn cr cd p))) ((by rw[Bo,hOk];first | rfl | (simp only[if_true];omega):((2*(u7.length:Nat))+cr:Int)=Bo cr cd p))) ((hOk.symm:(true:Bool)=Bq cr cd p)),hs26,congrArg (fun l0=>ints 3 v25 l0::own) ((by rw[DJ,hOk] <;> rfl:EG cr cd p=DJ cr cd p))⟩)
end Go.Proofs.YtbmnnbglipkidaaGreatDoor
