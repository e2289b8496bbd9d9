/-
  Constants of roots by the first text: contracts by walks.
-/
import Derived.Test.YtbmnnbglipkidaaGreatDoorZ51
import Derived.Test.YtbmnnbglipkidaaGreatDoorCnx
namespace Go.Proofs.YtbmnnbglipkidaaGreatDoor
set_option maxRecDepth 100000
set_option maxHeartbeats 4000000
set_option linter.unusedVariables false
set_option linter.unusedSimpArgs false
open Go.RowKit
theorem Db:TI Tryz.prog 66 true 6 (.agg #[J (0),.slice none 0 0,.slice none 0 0,.map none,.map none,.map none]) [(0,4),(4,1),(5,1)]:=⟨fun w=>by kernel_rfl,by kernel_rfl,fun _=>⟨_,Tryz.underlying66,fun w=>by kernel_rfl⟩⟩
theorem GP:∀ (b k:Nat) w,(Instr.fieldAt 66 (.pointer (some ⟨b,k,none⟩)) 0).run Tryz.prog w = .ok (.pointer (some ⟨b,k+0,none⟩)) w:=fun b k w=>by kernel_rfl
theorem PV:∀ (b k:Nat) w,(Instr.fieldAt 66 (.pointer (some ⟨b,k,none⟩)) 1).run Tryz.prog w = .ok (.pointer (some ⟨b,k+4,none⟩)) w:=fun b k w=>by kernel_rfl
theorem M6:∀ (b k:Nat) w,(Instr.fieldAt 66 (.pointer (some ⟨b,k,none⟩)) 2).run Tryz.prog w = .ok (.pointer (some ⟨b,k+5,none⟩)) w:=fun b k w=>by kernel_rfl
theorem dD:∀ us w,(callFunc 40 us).run Tryz.prog w = .ok (.enter 40 us) w:=fun us w=>by kernel_rfl
theorem Kc:∀ us w,(callFunc 41 us).run Tryz.prog w = .ok (.enter 41 us) w:=fun us w=>by kernel_rfl
theorem KM:∀ us w,(callFunc 99 us).run Tryz.prog w = .ok (.enter 99 us) w:=fun us w=>by kernel_rfl
theorem bh:∀ us w,(callFunc 100 us).run Tryz.prog w = .ok (.enter 100 us) w:=fun us w=>by kernel_rfl
theorem GV:∀ us w,(callFunc 101 us).run Tryz.prog w = .ok (.enter 101 us) w:=fun us w=>by kernel_rfl
theorem Ts:∀ us w,(callFunc 154 us).run Tryz.prog w = .ok (.enter 154 us) w:=fun us w=>by kernel_rfl
theorem HH:KeyE Tryz.prog 9 keyP:=aZ Tryz.underlying9
theorem RR {W:World}{own:List Asn}{cr:Int}{vcd:Value}{cd:List Int}{vL:Value}{uL:List Value}{gmp:Nat}{gqp:Nat}{gk:Nat}{vx:Value}{x:List Int}(scd:Ab vcd)(ecd:Ent own fun w=>Ints w vcd cd)(sL:Ab vL)(eL:Ent own fun w=>Sl w vL (rSt cr cd).length 1 uL)(mL:∀ k,k<(rSt cr cd).length→Ent own fun w=>Ints w (uL.getD k undef) ((rSt cr cd).getD k []))(lL:uL.length=(rSt cr cd).length)(aL:AllS uL)(hmp:Ent own (BO Bc valI gmp (A7 cr cd)))(hqp:Ent own (BO Bc valI gqp (Lg cr cd)))(sx:Ab vx)(ex:Ent own fun w=>Ints w vx x)(hS:(Ax cr cd).isSome=true)(hx:rtB (rSt cr cd) x=true)(htab:Ent own Cm):Spec Tryz.prog 101 [.agg #[J (cr),vcd,vL,.map (some gmp),.map (some gqp),.map (some gk)],vx] W own (fun v ow=>v=J (hn cr cd x)∧ow=own):=by
 have hlx:=(Aw hS hx).1
 have hr4:=(Aw hS hx).2.2
 have hnl:=DR x
 refine Spec.enter Tryz.f101 _ Tryz.func101 rfl (n:=15) rfl rfl ?_
 refine Zs (Zr (Yt (OG.box (cs:=[J (cr),vcd,vL,.map (some gmp),.map (some gqp),.map (some gk)]) rfl rfl rfl) ?_))
 rintro _ _ ⟨g1,rfl,rfl⟩
 refine Za rfl (Zn (Zt (Zs (Zs (Zr (Zm rfl (Yt (Yc [vx] KM (by exact(Et sx (Ent.drop 1 ex) (by omega)))) ?_)))))))
 rintro _ _ ⟨rfl,rfl⟩
 refine Zd Bb rfl ?_
 refine Zn (Zt ?_)
 refine GC.cond rfl (fun hc2=>?_) (fun hc2=>?_)
 replace hc2:=of_decide_eq_true hc2
 refine Zr (Zm rfl (Yt (Yc [J (-1),vx] FF (by exact(Bs sx (Ent.drop 1 ex) (by omega)))) ?_))
 rintro v3 _ ⟨_,rfl,hs4,rfl⟩
 refine Za rfl (Zn (Zt (Zs (Ya [(2,_),(4,_),(1,_)] ?_))))
 refine Wp [Z0 10 (Pg g1 4),Z1 11 [(0,10)] (.map (some gqp)),Z0 12 v3,Z1 13 [(2,12)] (.string (Ca (Af (List.replicate x.length 0) (-1) x))),Z1 14 [(1,11),(3,13)] (J ((BP (Af (List.replicate x.length 0) (-1) x) (Lg cr cd)).getD 0))] (Zc (fun _ _ _=>Zq (Qf PV) rfl) (Zc (fun _ _ _=>Zq (Ql GZ 1) rfl) (Yv (Zc (fun _ _ _=>Zq (Yc [v3] E8 (by exact(Ba hs4 (Ei 0) (LQ x) (by unfold Fe at hnl;omega) ((Ent.drop 2 htab.app))))) rfl) (Zc (fun _ _ _=>Zq (OD.lookup (k:=(Af (List.replicate x.length 0) (-1) x)) rfl GY De rfl rfl (Ent.drop 2 hqp.app)) rfl) As.nil))))) ?_
 intro θ _
 refine Yb [(4,_),(14,J ((BP (Af (List.replicate x.length 0) (-1) x) (Lg cr cd)).getD 0))] (_::_) ?_
 show G _ _ _ [_] _ _ _ _
 refine Za rfl (Zn (Zt (GC.ret ?_)))
 exact GE.body [] 2 (Ao rfl rfl) rfl (⟨congrArg (fun a0=>(J (a0):Value)) ((cN_neg hS hx hc2:((BP (Af (List.replicate x.length 0) (-1) x) (Lg cr cd)).getD 0:Int)=hn cr cd x)),rfl⟩)
 replace hc2:=of_decide_eq_false hc2
 refine Zk (Zt (Zs (Ya [(1,_),(2,_),(4,_)] ?_)))
 refine Wp [Z0 10 (Pg g1 4),Z1 11 [(0,10)] (.map (some gqp)),Z0 12 vx,Z1 13 [(2,12)] (.string (Ca x)),Z1 14 [(1,11),(3,13)] (J ((BP x (Lg cr cd)).getD 0))] (Zc (fun _ _ _=>Zq (Qf PV) rfl) (Zc (fun _ _ _=>Zq (Ql GZ 0) rfl) (Yv (Zc (fun _ _ _=>Zq (Yc [vx] E8 (by exact(Ba sx (Ent.drop 1 ex.app) (DF hS hx) (by omega) ((Ent.drop 1 htab.app))))) rfl) (Zc (fun _ _ _=>Zq (OD.lookup (k:=x) rfl GY De rfl rfl (Ent.drop 1 hqp.app)) rfl) As.nil))))) ?_
 intro θ _
 refine Yb [(4,_),(14,J ((BP x (Lg cr cd)).getD 0))] (_::_) ?_
 show G _ _ _ [_] _ _ _ _
 refine Za rfl (Zn (Zt (GC.ret ?_)))
 exact GE.body [] 1 (Ao rfl rfl) rfl (⟨congrArg (fun a0=>(J (a0):Value)) ((cN_pos hS hx hc2:((BP x (Lg cr cd)).getD 0:Int)=hn cr cd x)),rfl⟩)
theorem NL {W:World}{own:List Asn}{cr:Int}{vcd:Value}{cd:List Int}{vL:Value}{uL:List Value}{gmp:Nat}{gqp:Nat}{gk:Nat}{va:Value}{a:List Int}{vb:Value}{b:List Int}{vc:Value}{c:List Int}{ve:Value}{e:List Int}(scd:Ab vcd)(ecd:Ent own fun w=>Ints w vcd cd)(sL:Ab vL)(eL:Ent own fun w=>Sl w vL (rSt cr cd).length 1 uL)(mL:∀ k,k<(rSt cr cd).length→Ent own fun w=>Ints w (uL.getD k undef) ((rSt cr cd).getD k []))(lL:uL.length=(rSt cr cd).length)(aL:AllS uL)(hmp:Ent own (BO Bc valI gmp (A7 cr cd)))(hqp:Ent own (BO Bc valI gqp (Lg cr cd)))(sa:Ab va)(ea:Ent own fun w=>Ints w va a)(sb:Ab vb)(eb:Ent own fun w=>Ints w vb b)(sc:Ab vc)(ec:Ent own fun w=>Ints w vc c)(se:Ab ve)(ee:Ent own fun w=>Ints w ve e){f:Nat}(hS:(Ax cr cd).isSome=true)(ha:rtB (rSt cr cd) a=true)(hb:rtB (rSt cr cd) b=true)(hc:rtB (rSt cr cd) c=true)(he:rtB (rSt cr cd) e=true)(hmab:CQ a b<f)(hmce:CQ c e<f)(ih:∀ {W:World} {own:List Asn} {cr:Int} {vcd:Value} {cd:List Int} {vL:Value} {uL:List Value} {gmp:Nat} {gqp:Nat} {gk:Nat} {vx:Value} {x:List Int} {vy:Value} {y:List Int} (scd:Ab vcd) (ecd:Ent own fun w=>Ints w vcd cd) (sL:Ab vL) (eL:Ent own fun w=>Sl w vL (rSt cr cd).length 1 uL) (mL:∀ k,k<(rSt cr cd).length→Ent own fun w=>Ints w (uL.getD k undef) ((rSt cr cd).getD k [])) (lL:uL.length=(rSt cr cd).length) (aL:AllS uL) (hmp:Ent own (BO Bc valI gmp (A7 cr cd))) (hqp:Ent own (BO Bc valI gqp (Lg cr cd))) (sx:Ab vx) (ex:Ent own fun w=>Ints w vx x) (sy:Ab vy) (ey:Ent own fun w=>Ints w vy y) (hS:(Ax cr cd).isSome=true) (hx:rtB (rSt cr cd) x=true) (hy:rtB (rSt cr cd) y=true) (hm:CQ x y<f) (htab:Ent own Cm),Spec Tryz.prog 41 [.agg #[J (cr),vcd,vL,.map (some gmp),.map (some gqp),.map (some gk)],vx,vy] W (memA gk cr cd::own) (fun v ow=>v=J (nF cr cd x y)∧ow=memA gk cr cd::own))(htab:Ent own Cm):Spec Tryz.prog 154 [.agg #[J (cr),vcd,vL,.map (some gmp),.map (some gqp),.map (some gk)],va,vb,vc,ve] W (memA gk cr cd::own) (fun v ow=>v=J (shF cr cd a b c e)∧ow=memA gk cr cd::own):=by
 have hla:=(Aw hS ha).1
 have hlb:=(Aw hS hb).1
 have hlc:=(Aw hS hc).1
 have hle:=(Aw hS he).1
 have hr4:=(Aw hS ha).2.2
 have hcr:=(AB hS).1
 refine Spec.enter Tryz.f154 _ Tryz.func154 rfl (n:=34) rfl rfl ?_
 refine Zs (Zr (Yt (OG.box (cs:=[J (cr),vcd,vL,.map (some gmp),.map (some gqp),.map (some gk)]) rfl rfl rfl) ?_))
 rintro _ _ ⟨g1,rfl,rfl⟩
 refine Za rfl (Zn (Zt (Zs (Zr (Zm rfl (Zm rfl (Yt (Yc [va,J (1),vb] Gx (by exact(BQ sa (Ent.drop 2 ea) sb (Ent.drop 2 eb) (by omega) (by omega)))) ?_)))))))
 rintro v2 _ ⟨_,rfl,hs3,rfl⟩
 refine Za rfl (Zn (Zt (Zs (Zs (Zr (Zd (Qf GP) rfl ?_))))))
 refine Zd (Qa Df 1 [_,_,_,_]) rfl ?_
 refine Zm rfl (Yt (Yc [.agg #[J (cr),vcd,vL,.map (some gmp)],v2] QR (by exact(QV scd sL (Ent.drop 3 eL) (Ent.drop 3 hmp) hs3 (Ei 0) (by omega) (Bn (DF hS ha)) (by rw[AQ];omega) ((Ent.drop 3 htab))))) ?_)
 rintro _ _ ⟨rfl,rfl⟩
 refine Zd (OD.not rfl rfl) rfl ?_
 refine Zn (Zt ?_)
 refine GC.cond rfl (fun hc4=>?_) (fun hc4=>?_)
 replace hc4:=Ai hc4
 refine Zs (Zr (Za rfl (Zn (Zt (GC.ret (GE.passR ?_))))))
 exact GE.body [2] 2 (Ao rfl rfl) rfl (⟨congrArg (fun a0=>(J (a0):Value)) ((eJ hS ha hb ((Gq hS ha hb).symm.trans hc4):(0:Int)=shF cr cd a b c e)),rfl⟩)
 replace hc4:=Am hc4
 refine Zk (Zt (Zs ?_))
 have hzz:=Ce hS ((Gq hS ha hb).symm.trans hc4)
 refine Ya [(1,_),(2,_),(3,_),(4,_),(5,_),(10,_),(11,_)] ?_
 refine Wp [Z0 20 (.agg #[J (cr),vcd,vL,.map (some gmp),.map (some gqp),.map (some gk)]),Z0 21 va,Z0 22 vb,Z1 23 [(0,20),(1,21),(2,22)] (J (nF cr cd a b)),Z1 24 [(3,23)] (J (IntKind.i64.wrap (6*(nF cr cd a b)))),Z0 25 (.agg #[J (cr),vcd,vL,.map (some gmp),.map (some gqp),.map (some gk)]),Z0 26 vc,Z0 27 ve,Z1 28 [(5,25),(6,26),(7,27)] (J (nF cr cd c e)),Z1 29 [(4,24),(8,28)] (J (IntKind.i64.wrap ((IntKind.i64.wrap (6*(nF cr cd a b)))*(nF cr cd c e)))),Z0 30 (.agg #[J (cr),vcd,vL,.map (some gmp),.map (some gqp),.map (some gk)]),Z0 31 v2,Z1 32 [(10,30),(11,31)] (J (hn cr cd (Af a 1 b))),Z1 33 [(9,29),(12,32)] (J (IntKind.i64.wrap ((IntKind.i64.wrap ((IntKind.i64.wrap (6*(nF cr cd a b)))*(nF cr cd c e))).tdiv (hn cr cd (Af a 1 b)))))] (Zc (fun _ _ _=>Zq (Qa Db 1 [_,_,_,_,_,_]) rfl) (Yv (Yv (Zc (fun _ _ _=>Zq (Yc [.agg #[J (cr),vcd,vL,.map (some gmp),.map (some gqp),.map (some gk)],va,vb] Kc (by exact(Spec.atIdx (i:=2) rfl (ih scd (Ent.drop 2 ecd.app) sL (Ent.drop 2 eL.app) (fun k hk=>(Ent.drop 2 ((mL k hk).app))) lL aL (Ent.drop 2 hmp.app) (Ent.drop 2 hqp.app) sa (Ent.drop 2 ea.app) sb (Ent.drop 2 eb.app) (hS) (ha) (hb) (hmab) ((Ent.drop 2 htab.app)))))) rfl) (Zc (fun _ _ _=>Zq CN rfl) (Zc (fun _ _ _=>Zq (Qa Db 1 [_,_,_,_,_,_]) rfl) (Yv (Yv (Zc (fun _ _ _=>Zq (Yc [.agg #[J (cr),vcd,vL,.map (some gmp),.map (some gqp),.map (some gk)],vc,ve] Kc (by exact(Spec.atIdx (i:=2) rfl (ih scd (Ent.drop 2 ecd.app) sL (Ent.drop 2 eL.app) (fun k hk=>(Ent.drop 2 ((mL k hk).app))) lL aL (Ent.drop 2 hmp.app) (Ent.drop 2 hqp.app) sc (Ent.drop 2 ec.app) se (Ent.drop 2 ee.app) (hS) (hc) (he) (hmce) ((Ent.drop 2 htab.app)))))) rfl) (Zc (fun _ _ _=>Zq CN rfl) (Zc (fun _ _ _=>Zq (Qa Db 1 [_,_,_,_,_,_]) rfl) (Yv (Zc (fun _ _ _=>Zq (Yc [.agg #[J (cr),vcd,vL,.map (some gmp),.map (some gqp),.map (some gk)],v2] GV (by exact(RR scd (Ent.drop 3 ecd.app) sL (Ent.drop 3 eL.app) (fun k hk=>(Ent.drop 3 ((mL k hk).app))) lL aL (Ent.drop 3 hmp.app) (Ent.drop 3 hqp.app) hs3 (Ei 0) (hS) (((Gq hS ha hb).symm.trans hc4)) ((Ent.drop 3 htab.app))))) rfl) (Zc (fun _ _ _=>Zq (OD.quo rfl rfl rfl (by omega)) rfl) As.nil)))))))))))))) ?_
 intro θ _
 refine Yb [(10,_),(33,J (IntKind.i64.wrap ((IntKind.i64.wrap ((IntKind.i64.wrap (6*(nF cr cd a b)))*(nF cr cd c e))).tdiv (hn cr cd (Af a 1 b)))))] (_::_) ?_
 show G _ _ _ [_] _ _ _ _
 refine Za rfl (Zn (Zt (GC.ret ?_)))
 exact GE.body [2] 2 (Ao rfl rfl) rfl (⟨congrArg (fun a0=>(J (a0):Value)) ((cG hS ha hb hc he ((Gq hS ha hb).symm.trans hc4):(IntKind.i64.wrap ((IntKind.i64.wrap ((IntKind.i64.wrap (6*(nF cr cd a b)))*(nF cr cd c e))).tdiv (hn cr cd (Af a 1 b))):Int)=shF cr cd a b c e)),rfl⟩)
theorem dx {W:World}{own:List Asn}{cr:Int}{vcd:Value}{cd:List Int}{vL:Value}{uL:List Value}{gmp:Nat}{gqp:Nat}{gk:Nat}{vx:Value}{x:List Int}{vy:Value}{y:List Int}{vz:Value}(scd:Ab vcd)(ecd:Ent own fun w=>Ints w vcd cd)(sL:Ab vL)(eL:Ent own fun w=>Sl w vL (rSt cr cd).length 1 uL)(mL:∀ k,k<(rSt cr cd).length→Ent own fun w=>Ints w (uL.getD k undef) ((rSt cr cd).getD k []))(lL:uL.length=(rSt cr cd).length)(aL:AllS uL)(hmp:Ent own (BO Bc valI gmp (A7 cr cd)))(hqp:Ent own (BO Bc valI gqp (Lg cr cd)))(sx:Ab vx)(ex:Ent own fun w=>Ints w vx x)(sy:Ab vy)(ey:Ent own fun w=>Ints w vy y)(sz:Ab vz)(ez:Ent own fun w=>Ints w vz (Af x 1 y)){f:Nat}(hS:(Ax cr cd).isSome=true)(hx:x∈rSt cr cd)(hy:y∈rSt cr cd)(hz:Af x 1 y∈rSt cr cd)(hm:4*(sP x+sP y).natAbs≤f)(ih:∀ {W:World} {own:List Asn} {cr:Int} {vcd:Value} {cd:List Int} {vL:Value} {uL:List Value} {gmp:Nat} {gqp:Nat} {gk:Nat} {vx:Value} {x:List Int} {vy:Value} {y:List Int} (scd:Ab vcd) (ecd:Ent own fun w=>Ints w vcd cd) (sL:Ab vL) (eL:Ent own fun w=>Sl w vL (rSt cr cd).length 1 uL) (mL:∀ k,k<(rSt cr cd).length→Ent own fun w=>Ints w (uL.getD k undef) ((rSt cr cd).getD k [])) (lL:uL.length=(rSt cr cd).length) (aL:AllS uL) (hmp:Ent own (BO Bc valI gmp (A7 cr cd))) (hqp:Ent own (BO Bc valI gqp (Lg cr cd))) (sx:Ab vx) (ex:Ent own fun w=>Ints w vx x) (sy:Ab vy) (ey:Ent own fun w=>Ints w vy y) (hS:(Ax cr cd).isSome=true) (hx:rtB (rSt cr cd) x=true) (hy:rtB (rSt cr cd) y=true) (hm:CQ x y<f) (htab:Ent own Cm),Spec Tryz.prog 41 [.agg #[J (cr),vcd,vL,.map (some gmp),.map (some gqp),.map (some gk)],vx,vy] W (memA gk cr cd::own) (fun v ow=>v=J (nF cr cd x y)∧ow=memA gk cr cd::own))(htab:Ent own Cm):Spec Tryz.prog 100 [.agg #[J (cr),vcd,vL,.map (some gmp),.map (some gqp),.map (some gk)],vx,vy,vz] W (memA gk cr cd::own) (fun v ow=>v=J (nF cr cd x y)∧ow=memA gk cr cd::own):=by
 have hl1:=(Ay hS hx).1
 have hl2:=(Ay hS hy).1
 have hlz:=(Ay hS hz).1
 have hr4:=(rtOk hS).rk
 have hcr:=(AB hS).1
 have h64x:=DF hS (Au hx)
 have h64y:=DF hS (Au hy)
 have h64z:=DF hS (Au hz)
 have hfx:=G0 h64x
 have hfy:=G0 h64y
 have hRf:(rSt cr cd).length≤30:=by have h1:=(rtOk hS).slen;have h2:=(rtOk hS).few;omega
 refine Spec.enter Tryz.f100 _ Tryz.func100 rfl (n:=115) rfl rfl ?_
 refine Zs (Zr (Yt (OG.box (cs:=[J (cr),vcd,vL,.map (some gmp),.map (some gqp),.map (some gk)]) rfl rfl rfl) ?_))
 rintro _ _ ⟨g1,rfl,rfl⟩
 refine Za rfl (Zn (Zt (Zs (Zr (Zm rfl (Yt (Yc [vx] E8 (by exact(Ba sx (Ent.drop 2 ex) (h64x) (by omega) ((Ent.drop 2 htab))))) ?_))))))
 rintro _ _ ⟨rfl,rfl⟩
 refine Zd (OD.strAdd rfl rfl rfl (by have:(⟨#[44]⟩:ByteArray).size=1:=rfl;omega)) rfl ?_
 refine Zm rfl (Yt (Yc [vy] E8 (by exact(Ba sy (Ent.drop 2 ey) (h64y) (by omega) ((Ent.drop 2 htab))))) ?_)
 rintro _ _ ⟨rfl,rfl⟩
 refine Zd (OD.strAdd rfl rfl rfl (by have:(⟨#[44]⟩:ByteArray).size=1:=rfl;simp only[ByteArray.size_append];omega)) rfl ?_
 refine Za rfl (Zn (Zt (Zs (Zs (Yq [1,0] (_::_::own) ?_)))))
 refine GC.memOpen fun kv2 hkv2=>?_
 refine Zr (Zd (Qf M6) rfl ?_)
 refine Zd (Ql GZ 1) rfl ?_
 refine Zm rfl (Zd (OD.lookupOk (k:=(x,y)) rfl GY HH rfl rfl (Ent.map (kE:=keyP) (vE:=valI) (l:=kv2) (i:=0) rfl)) rfl ?_)
 refine Zm rfl (Zd (OD.extract rfl rfl rfl) rfl ?_)
 refine Zd (OD.extract rfl rfl rfl) rfl ?_
 refine Za rfl (Za rfl (Zn (Zt (Zs (Zr (Zm rfl (Zn (Zt ?_))))))))
 refine GC.cond rfl (fun hc3=>?_) (fun hc3=>?_)
 refine Zs (Zr (Zm rfl (Za rfl (Zn (Zt (GC.ret (GE.passR ?_)))))))
 refine GE.memClose (n:=cr) (d:=cd) (hkv2) ?_
 skip
 exact GE.body [0] 1 (Ao rfl rfl) rfl (⟨congrArg (fun a0=>(J (a0):Value)) ((Fx.get hkv2 hc3:((BP (x,y) kv2).getD 0:Int)=nF cr cd x y)),rfl⟩)
 refine Zk (Zt (Zs (GC.memClose (n:=cr) (d:=cd) (hkv2) ?_)))
 refine Zr (Yt (OG.buildInts (xs:=[]) (is:=[]) rfl Ac rfl rfl rfl rfl rfl) ?_)
 rintro v4 _ ⟨hs5,rfl⟩
 refine Yt (OG.buildInts (xs:=[]) (is:=[]) rfl Ac rfl rfl rfl rfl rfl) ?_
 rintro v6 _ ⟨hs7,rfl⟩
 refine Za rfl (Za rfl (Zn (Zt (Zs (Zs (Zr (Zd (Qf GP) rfl ?_)))))))
 refine Zd (Qf BR) rfl ?_
 refine Zd (Ql DZ 3) rfl ?_
 refine Zd (Qn AM (Ent.drop 4 eL)) rfl ?_
 refine Zm rfl (Zn (Zt (GC.block ?_)))
 refine Yl (ι:=Nat × Value × Value) (fun⟨k,u,v⟩=>[(1,vx),(2,vy),(3,vz),(4,Pg g1 0),(9,.string (((Ca x)++(⟨#[44]⟩))++(Ca y))),(44,vL),(45,J (((rSt cr cd).length:Nat))),(12,u),(13,v),(46,J ((k:Int)))]) (fun⟨k,u,v⟩=>ints 3 v6 []::ints 3 v4 []::memA gk cr cd::box g1 66 [J (cr),vcd,vL,.map (some gmp),.map (some gqp),.map (some gk)]::own) (fun⟨k,u,v⟩=>(k≤(rSt cr cd).length)∧(∀ j,j<k→(rSt cr cd).contains (lA (Af x 1 y) (-1) ((rSt cr cd).getD j []))=false)∧(Ab u)∧(Ab v)) (fun⟨k,u,v⟩=>(rSt cr cd).length - k) (0,v4,v6) (⟨by omega,fun j hj=>absurd hj (Nat.not_lt_zero j),hs5,hs7⟩) [] 0 ?_
 rintro⟨k,u,v⟩ ⟨hk,h0,hu,hv⟩
 refine Zs (Zr (Zd Bb rfl ?_))
 refine Zn (Zt (Zs ?_))
 refine GC.cond rfl (fun hc8=>?_) (fun hc8=>?_)
 replace hc8:=of_decide_eq_true hc8
 refine Zk (Zt (Zs (GC.block (Zs (Zr ?_)))))
 refine Zd (Qi AM (Ent.drop 4 eL)) rfl ?_
 refine Zd (OD.loadElem rfl AH rfl (Ent.drop 4 eL) (by omega) rfl) rfl ?_
 refine Za rfl (Zn (Zt (Zs (Zr (Zm rfl (Zm rfl (Yt (Yc [vz,J (-1),(uL.getD (k) undef)] Gx (by exact(BQ sz (Ent.drop 4 ez) (aL.get (by omega)) (Ent.drop 4 (mL (k) (by omega))) (by omega) (by have:=(Ay hS (Bh (show k<(rSt cr cd).length by omega))).1;omega)))) ?_)))))))
 rintro v9 _ ⟨_,rfl,hs10,rfl⟩
 refine Za rfl (Zn (Zt (Zs (Zr (Zd (Qf GP) rfl ?_)))))
 refine Zd (Qa Df 4 [_,_,_,_]) rfl ?_
 refine Zm rfl (Yt (Yc [.agg #[J (cr),vcd,vL,.map (some gmp)],v9] PY (by exact(P2 scd sL (Ent.drop 5 eL) (Ent.drop 5 hmp) hs10 (Ei 0) (by omega) (Bn h64z) (by rw[AQ];omega) ((Ent.drop 5 htab))))) ?_)
 rintro _ _ ⟨rfl,rfl⟩
 refine Zm rfl (Zd (OD.extract rfl rfl rfl) rfl ?_)
 refine Zd (OD.extract rfl rfl rfl) rfl ?_
 refine Zd (OD.extract rfl rfl rfl) rfl ?_
 refine Za rfl (Za rfl (Za rfl (Zn (Zt (Zs (Zr (Zm rfl (Zm rfl ?_))))))))
 rcases Bool.eq_false_or_eq_true (EL cr (A7 cr cd) (Af (Af x 1 y) (-1) ((rSt cr cd).getD (k) []))) with hg11 | hg11
 have hg11e:=hg11
 rw[hg11e]
 refine Yd (OD.move rfl rfl) ?_
 refine Zd (OD.pickT rfl rfl rfl) rfl ?_
 refine Zn (Zt ?_)
 refine GC.cond rfl (fun hc12=>?_) (fun hc12=>?_)
 obtain⟨p,hF⟩:=ZQ hS hz (by omega) h0 ((dj hS hz (by omega)).symm.trans hc12)
 have hp3:=hF.hp
 have hlr:=(Ay hS hF.hr).1
 have hls:=(Ay hS hF.hs).1
 have hfm:=eR hS hx hy hF hm
 have hnr:=DR (rSt cr cd |>.getD (k) [])
 refine Zs (Zr (Zm rfl (Zm rfl (Za rfl (Za rfl (Zn (Zt (GC.exit (GE.miss rfl (Zp (Zp (GE.hit (Zt (Zs (Zr ?_)))))))))))))))
 refine Zd (Qf GP) rfl ?_
 refine Zd (Qa Df 4 [_,_,_,_]) rfl ?_
 refine Zm rfl (Zm rfl (Yt (Yc [.agg #[J (cr),vcd,vL,.map (some gmp)],v9,(uL.getD (k) undef),J (-1)] eM (by exact(Yz scd sL (Ent.drop 5 eL) (Ent.drop 5 hmp) hs10 (Ei 0) (aL.get (by omega)) (Ent.drop 5 (mL (k) (by omega))) (by omega) (Bn h64z) (by omega) (by omega) (by omega) (Q7 hS (Au hF.hs) (Au hF.hr) (Bn h64z) (.inr rfl)) ((Ent.drop 5 htab))))) ?_))
 rintro _ _ ⟨rfl,rfl⟩
 refine Zd (OD.eqv Ha (congrArg (Value.int .i64) ((by rw[hF.run,Aj (by omega) (by omega)]):(IntKind.i64.wrap ((FH (fun(m:Nat)=>EL cr (A7 cr cd) (Af (Af (Af x 1 y) (-1) ((rSt cr cd).getD (k) [])) ((-1)*(m:Int)) ((rSt cr cd).getD (k) []))) 40 0:Nat)+1):Int)=((p:Int)+1)))) rfl ?_
 refine Za rfl (Zn (Zt (Zs (Zr (Zm rfl (Za rfl (Zn (Zt (Zs (GC.block (Zs (Zr ?_))))))))))))
 refine Zm rfl (Zm rfl (Yt (Yc [vx,(uL.getD (k) undef)] ZR (by exact(FI sx (Ent.drop 5 ex) (aL.get (by omega)) (Ent.drop 5 (mL (k) (by omega))) (by omega)))) ?_))
 rintro _ _ ⟨rfl,rfl⟩
 refine Za rfl (Zn (Zt ?_))
 refine GC.cond rfl (fun hc13=>?_) (fun hc13=>?_)
 refine Zk (GE.blockN (Zt (Zs ?_)))
 refine Yq [3,0,0,0,0] (_::_::_::_::_::own) ?_
 refine GC.memOpen fun kv14 hkv14=>?_
 refine Zr (Zd (Qf M6) rfl ?_)
 refine Zd (Ql GZ 4) rfl ?_
 refine Zm rfl (Zm rfl (G.stepD0 (OD.mapUpdate (kE:=keyP) (vE:=valI) (l:=kv14) (k:=(x,y)) (b:=((p:Int)+1:Int)) rfl GY.ht HH rfl rfl rfl (i:=0) rfl) rfl rfl ?_))
 refine Zn (Zt (Zs (Zr (Zm rfl (Za rfl (Zn (Zt (GC.ret ?_))))))))
 refine GE.memClose (n:=cr) (d:=cd) (Fx.up hkv14 (fs_1 hS hx hy hF hc13)) ?_
 skip
 exact GE.body [0] 4 (Ao rfl rfl) rfl (⟨congrArg (fun a0=>(J (a0):Value)) ((fs_1 hS hx hy hF hc13:((p:Int)+1:Int)=nF cr cd x y)),rfl⟩)
 refine Zs (Zr (Zm rfl (Zm rfl (Yt (Yc [vy,(uL.getD (k) undef)] ZR (by exact(FI sy (Ent.drop 5 ey) (aL.get (by omega)) (Ent.drop 5 (mL (k) (by omega))) (by omega)))) ?_))))
 rintro _ _ ⟨rfl,rfl⟩
 refine Za rfl (Zn (Zt ?_))
 refine GC.cond rfl (fun hc15=>?_) (fun hc15=>?_)
 refine Zr (Zm rfl (Zd (OD.neg rfl rfl) rfl ?_))
 refine Za rfl (Zn (GE.blockN (Zt (Zs ?_))))
 refine Yq [3,0,0,0,0] (_::_::_::_::_::own) ?_
 refine GC.memOpen fun kv16 hkv16=>?_
 refine Zr (Zd (Qf M6) rfl ?_)
 refine Zd (Ql GZ 4) rfl ?_
 refine Zm rfl (Zm rfl (G.stepD0 (OD.mapUpdate (kE:=keyP) (vE:=valI) (l:=kv16) (k:=(x,y)) (b:=(IntKind.i64.wrap (0 - ((p:Int)+1)):Int)) rfl GY.ht HH rfl rfl rfl (i:=0) rfl) rfl rfl ?_))
 refine Zn (Zt (Zs (Zr (Zm rfl (Za rfl (Zn (Zt (GC.ret ?_))))))))
 refine GE.memClose (n:=cr) (d:=cd) (Fx.up hkv16 (fs_2 hS hx hy hF hc13 hc15)) ?_
 skip
 exact GE.body [0] 4 (Ao rfl rfl) rfl (⟨congrArg (fun a0=>(J (a0):Value)) ((fs_2 hS hx hy hF hc13 hc15:(IntKind.i64.wrap (0 - ((p:Int)+1)):Int)=nF cr cd x y)),rfl⟩)
 refine Zs (Zr (Zm rfl (Yt (Yc [J (-1),(uL.getD (k) undef)] FF (by exact(Bs (aL.get (by omega)) (Ent.drop 5 (mL (k) (by omega))) (by omega)))) ?_)))
 rintro v17 _ ⟨_,rfl,hs18,rfl⟩
 refine Zm rfl (Yt (Yc [J (-1),v9] FF (by exact(Bs hs10 (Ei 1) (by omega)))) ?_)
 rintro v19 _ ⟨_,rfl,hs20,rfl⟩
 refine Za rfl (Za rfl (Zn (Zt (Zs (Ya [(1,_),(2,_),(3,_),(4,_),(9,_),(20,_),(22,_),(23,_)] ?_)))))
 refine Wp [Z0 79 (.agg #[J (cr),vcd,vL,.map (some gmp),.map (some gqp),.map (some gk)]),Z0 80 vy,Z0 81 v17,Z0 82 vx,Z0 83 v19,Z1 84 [(0,79),(1,80),(2,81),(3,82),(4,83)] (J (shF cr cd y (Af (List.replicate ((rSt cr cd).getD (k) []).length 0) (-1) ((rSt cr cd).getD (k) [])) x (Af (List.replicate (Af (Af x 1 y) (-1) ((rSt cr cd).getD (k) [])).length 0) (-1) (Af (Af x 1 y) (-1) ((rSt cr cd).getD (k) []))))),Z0 85 (.agg #[J (cr),vcd,vL,.map (some gmp),.map (some gqp),.map (some gk)]),Z0 86 v17,Z0 87 vx,Z0 88 vy,Z0 89 v19,Z1 90 [(6,85),(7,86),(8,87),(9,88),(10,89)] (J (shF cr cd (Af (List.replicate ((rSt cr cd).getD (k) []).length 0) (-1) ((rSt cr cd).getD (k) [])) x y (Af (List.replicate (Af (Af x 1 y) (-1) ((rSt cr cd).getD (k) [])).length 0) (-1) (Af (Af x 1 y) (-1) ((rSt cr cd).getD (k) []))))),Z1 91 [(5,84),(11,90)] (J (IntKind.i64.wrap ((shF cr cd y (Af (List.replicate ((rSt cr cd).getD (k) []).length 0) (-1) ((rSt cr cd).getD (k) [])) x (Af (List.replicate (Af (Af x 1 y) (-1) ((rSt cr cd).getD (k) [])).length 0) (-1) (Af (Af x 1 y) (-1) ((rSt cr cd).getD (k) []))))+(shF cr cd (Af (List.replicate ((rSt cr cd).getD (k) []).length 0) (-1) ((rSt cr cd).getD (k) [])) x y (Af (List.replicate (Af (Af x 1 y) (-1) ((rSt cr cd).getD (k) [])).length 0) (-1) (Af (Af x 1 y) (-1) ((rSt cr cd).getD (k) [])))))))] (Zc (fun _ _ _=>Zq (Qa Db 6 [_,_,_,_,_,_]) rfl) (Yv (Yv (Yv (Yv (Zc (fun _ _ _=>Zq (Yc [.agg #[J (cr),vcd,vL,.map (some gmp),.map (some gqp),.map (some gk)],vy,v17,vx,v19] Ts (by exact(Spec.atIdx (i:=5) rfl (NL scd (Ent.drop 6 ecd.app) sL (Ent.drop 6 eL.app) (fun k hk=>(Ent.drop 6 ((mL k hk).app))) lL aL (Ent.drop 6 hmp.app) (Ent.drop 6 hqp.app) sy (Ent.drop 6 ey.app) hs18 (Ei 1) sx (Ent.drop 6 ex.app) hs20 (Ei 0) (hS) (Au hy) (EF hS (Au hF.hr)) (Au hx) (EF hS (Au hF.hs)) (hfm.1) (hfm.2.1) (@ih) ((Ent.drop 6 htab.app)))))) rfl) (Zc (fun _ _ _=>Zq (Qa Db 6 [_,_,_,_,_,_]) rfl) (Yv (Yv (Yv (Yv (Zc (fun _ _ _=>Zq (Yc [.agg #[J (cr),vcd,vL,.map (some gmp),.map (some gqp),.map (some gk)],v17,vx,vy,v19] Ts (by exact(Spec.atIdx (i:=5) rfl (NL scd (Ent.drop 6 ecd.app) sL (Ent.drop 6 eL.app) (fun k hk=>(Ent.drop 6 ((mL k hk).app))) lL aL (Ent.drop 6 hmp.app) (Ent.drop 6 hqp.app) hs18 (Ei 1) sx (Ent.drop 6 ex.app) sy (Ent.drop 6 ey.app) hs20 (Ei 0) (hS) (EF hS (Au hF.hr)) (Au hx) (Au hy) (EF hS (Au hF.hs)) (hfm.2.2.1) (hfm.2.2.2) (@ih) ((Ent.drop 6 htab.app)))))) rfl) (Zc (fun _ _ _=>Zq Ha rfl) As.nil))))))))))))) ?_
 intro θ _
 refine Yb [(3,_),(4,_),(9,_),(20,_),(91,J (IntKind.i64.wrap ((shF cr cd y (Af (List.replicate ((rSt cr cd).getD (k) []).length 0) (-1) ((rSt cr cd).getD (k) [])) x (Af (List.replicate (Af (Af x 1 y) (-1) ((rSt cr cd).getD (k) [])).length 0) (-1) (Af (Af x 1 y) (-1) ((rSt cr cd).getD (k) []))))+(shF cr cd (Af (List.replicate ((rSt cr cd).getD (k) []).length 0) (-1) ((rSt cr cd).getD (k) [])) x y (Af (List.replicate (Af (Af x 1 y) (-1) ((rSt cr cd).getD (k) [])).length 0) (-1) (Af (Af x 1 y) (-1) ((rSt cr cd).getD (k) [])))))))] (_::_) ?_
 show G _ _ _ [_] _ _ _ _
 refine Za rfl (Zn (Zt (Zr (Zd (Qa Db 6 [_,_,_,_,_,_]) rfl ?_))))
 refine Zm rfl (Yt (Yc [.agg #[J (cr),vcd,vL,.map (some gmp),.map (some gqp),.map (some gk)],vz] GV (by exact(RR scd (Ent.drop 7 ecd) sL (Ent.drop 7 eL) (fun k hk=>(Ent.drop 7 (mL k hk))) lL aL (Ent.drop 7 hmp) (Ent.drop 7 hqp) sz (Ent.drop 7 ez) (hS) (Au hz) ((Ent.drop 7 htab))))) ?_)
 rintro _ _ ⟨rfl,rfl⟩
 refine Zm rfl (Zd CN rfl ?_)
 refine Zm rfl (Zd CN rfl ?_)
 refine Zd (OD.quo rfl rfl rfl (by rw[Aj (by omega) (by omega)];omega)) rfl ?_
 refine Za rfl (Zn (GE.blockN (Zt (Zs ?_))))
 refine Yq [5,0,0,0,0,0,0] (_::_::_::_::_::_::_::own) ?_
 refine GC.memOpen fun kv21 hkv21=>?_
 refine Zr (Zd (Qf M6) rfl ?_)
 refine Zd (Ql GZ 6) rfl ?_
 refine Zm rfl (Zm rfl ?_)
 refine G.stepD0 (OD.mapUpdate (kE:=keyP) (vE:=valI) (l:=kv21) (k:=(x,y)) (b:=(IntKind.i64.wrap ((IntKind.i64.wrap ((hn cr cd (Af x 1 y))*(IntKind.i64.wrap ((shF cr cd y (Af (List.replicate ((rSt cr cd).getD (k) []).length 0) (-1) ((rSt cr cd).getD (k) [])) x (Af (List.replicate (Af (Af x 1 y) (-1) ((rSt cr cd).getD (k) [])).length 0) (-1) (Af (Af x 1 y) (-1) ((rSt cr cd).getD (k) []))))+(shF cr cd (Af (List.replicate ((rSt cr cd).getD (k) []).length 0) (-1) ((rSt cr cd).getD (k) [])) x y (Af (List.replicate (Af (Af x 1 y) (-1) ((rSt cr cd).getD (k) [])).length 0) (-1) (Af (Af x 1 y) (-1) ((rSt cr cd).getD (k) [])))))))).tdiv (IntKind.i64.wrap (6*((p:Int)+1)))):Int)) rfl GY.ht HH rfl rfl rfl (i:=0) rfl) rfl rfl ?_
 refine Zn (Zt (Zs (Zr (Zm rfl (Za rfl (Zn (Zt (GC.ret ?_))))))))
 refine GE.memClose (n:=cr) (d:=cd) (Fx.up hkv21 (fs_3 hS hx hy hz hF hc13 hc15)) ?_
 skip
 exact GE.body [0] 6 (Ao rfl rfl) rfl (⟨congrArg (fun a0=>(J (a0):Value)) ((fs_3 hS hx hy hz hF hc13 hc15:(IntKind.i64.wrap ((IntKind.i64.wrap ((hn cr cd (Af x 1 y))*(IntKind.i64.wrap ((shF cr cd y (Af (List.replicate ((rSt cr cd).getD (k) []).length 0) (-1) ((rSt cr cd).getD (k) [])) x (Af (List.replicate (Af (Af x 1 y) (-1) ((rSt cr cd).getD (k) [])).length 0) (-1) (Af (Af x 1 y) (-1) ((rSt cr cd).getD (k) []))))+(shF cr cd (Af (List.replicate ((rSt cr cd).getD (k) []).length 0) (-1) ((rSt cr cd).getD (k) [])) x y (Af (List.replicate (Af (Af x 1 y) (-1) ((rSt cr cd).getD (k) [])).length 0) (-1) (Af (Af x 1 y) (-1) ((rSt cr cd).getD (k) [])))))))).tdiv (IntKind.i64.wrap (6*((p:Int)+1)))):Int)=nF cr cd x y)),rfl⟩)
 refine Zk (GE.blockN (Zt (Zr ?_)))
 refine Zd Qp rfl ?_
 exact Zm rfl (Zn (Yg (k+1,u,v) (⟨by omega,fun j hj=>(Nat.lt_succ_iff_lt_or_eq.1 hj).elim (h0 j) (fun e=>by rw[e];exact(dj hS hz (by omega)).symm.trans hc12),hu,hv⟩) [1,1,1,1] 1))
 have hg11e:=hg11
 rw[hg11e]
 refine Yk ?_
 refine Zd (OD.pickF rfl rfl rfl) rfl ?_
 refine Zn (Zt (GC.condF rfl (Zk (GE.blockN (Zt (Zr ?_))))))
 refine Zd Qp rfl ?_
 exact Zm rfl (Zn (Yg (k+1,u,v) (⟨by omega,fun j hj=>(Nat.lt_succ_iff_lt_or_eq.1 hj).elim (h0 j) (fun e=>by rw[e];exact gw hS hz (by omega) hg11e),hu,hv⟩) [1,1,1,1] 1))
 replace hc8:=of_decide_eq_false hc8
 exact(UO hS hx hy hz fun j hj=>h0 j (by omega)).elim
theorem eY (f:Nat):∀ {W:World} {own:List Asn} {cr:Int} {vcd:Value} {cd:List Int} {vL:Value} {uL:List Value} {gmp:Nat} {gqp:Nat} {gk:Nat} {vx:Value} {x:List Int} {vy:Value} {y:List Int} (scd:Ab vcd) (ecd:Ent own fun w=>Ints w vcd cd) (sL:Ab vL) (eL:Ent own fun w=>Sl w vL (rSt cr cd).length 1 uL) (mL:∀ k,k<(rSt cr cd).length→Ent own fun w=>Ints w (uL.getD k undef) ((rSt cr cd).getD k [])) (lL:uL.length=(rSt cr cd).length) (aL:AllS uL) (hmp:Ent own (BO Bc valI gmp (A7 cr cd))) (hqp:Ent own (BO Bc valI gqp (Lg cr cd))) (sx:Ab vx) (ex:Ent own fun w=>Ints w vx x) (sy:Ab vy) (ey:Ent own fun w=>Ints w vy y) (hS:(Ax cr cd).isSome=true) (hx:rtB (rSt cr cd) x=true) (hy:rtB (rSt cr cd) y=true) (hm:CQ x y<f) (htab:Ent own Cm),Spec Tryz.prog 41 [.agg #[J (cr),vcd,vL,.map (some gmp),.map (some gqp),.map (some gk)],vx,vy] W (memA gk cr cd::own) (fun v ow=>v=J (nF cr cd x y)∧ow=memA gk cr cd::own):=by
 induction f with
 | zero =>
   intro W own cr vcd cd vL uL gmp gqp gk vx x vy y scd ecd sL eL mL lL aL hmp hqp sx ex sy ey hS hx hy hm htab
   omega
 | succ f ih =>
  intro W own cr vcd cd vL uL gmp gqp gk vx x vy y scd ecd sL eL mL lL aL hmp hqp sx ex sy ey hS hx hy hm htab
  have hlx:=(Aw hS hx).1
  have hly:=(Aw hS hy).1
  have hr4:=(Aw hS hx).2.2
  have hcr:=(AB hS).1
  have hsx:=Oo hS hx
  have hsy:=Oo hS hy
  have hnx:=DR x
  have hny:=DR y
  have hbx:=Ce hS hx
  have hby:=Ce hS hy
  have hlz0:=AQ x 1 y
  refine Spec.enter Tryz.f41 _ Tryz.func41 rfl (n:=86) rfl rfl ?_
  refine Zs (Zr (Yt (OG.box (cs:=[J (cr),vcd,vL,.map (some gmp),.map (some gqp),.map (some gk)]) rfl rfl rfl) ?_))
  rintro _ _ ⟨g1,rfl,rfl⟩
  refine Za rfl (Zn (Zt (Zs (Zr (Zm rfl (Zm rfl (Yt (Yc [vx,J (1),vy] Gx (by exact(BQ sx (Ent.drop 2 ex) sy (Ent.drop 2 ey) (by omega) (by omega)))) ?_)))))))
  rintro v2 _ ⟨_,rfl,hs3,rfl⟩
  refine Za rfl (Zn (Zt (Zs (Zs (Zr (Zd (Qf GP) rfl ?_))))))
  refine Zd (Qa Df 1 [_,_,_,_]) rfl ?_
  refine Zm rfl (Yt (Yc [.agg #[J (cr),vcd,vL,.map (some gmp)],v2] QR (by exact(QV scd sL (Ent.drop 3 eL) (Ent.drop 3 hmp) hs3 (Ei 0) (by omega) (Bn (DF hS hx)) (by omega) ((Ent.drop 3 htab))))) ?_)
  rintro _ _ ⟨rfl,rfl⟩
  refine Zd (OD.not rfl rfl) rfl ?_
  refine Zn (Zt ?_)
  refine GC.cond rfl (fun hc4=>?_) (fun hc4=>?_)
  replace hc4:=Ai hc4
  refine Zs (Zr (Za rfl (Zn (Zt (GC.ret (GE.passR ?_))))))
  exact GE.body [2] 2 (Ao rfl rfl) rfl (⟨congrArg (fun a0=>(J (a0):Value)) ((of_no hS hx hy ((Gq hS hx hy).symm.trans hc4):(0:Int)=nF cr cd x y)),rfl⟩)
  replace hc4:=Am hc4
  have hz:rtB (rSt cr cd) (Af x 1 y)=true:=(Gq hS hx hy).symm.trans hc4
  have hsz:=Oo hS hz
  have hbz:=Ce hS hz
  have hnz:=DR (Af x 1 y)
  have hpz:=L6 hS hx hy
  refine Zk (Zt (Zs (Zs (Zr (Zm rfl (Yt (Yc [vx] KM (by exact(Et sx (Ent.drop 3 ex) (by omega)))) ?_))))))
  rintro _ _ ⟨rfl,rfl⟩
  refine Zd (OD.gtr rfl rfl rfl) rfl ?_
  refine Zm rfl (Yt (Yc [vy] KM (by exact(Et sy (Ent.drop 3 ey) (by omega)))) ?_)
  rintro _ _ ⟨rfl,rfl⟩
  refine Zd (OD.gtr rfl rfl rfl) rfl ?_
  refine Za rfl (Za rfl (Zn (Zt (GC.block (Zs (Zr ?_))))))
  refine Zm rfl (Zm rfl ?_)
  rcases Bool.eq_false_or_eq_true (decide (0<Ci x)) with hg5 | hg5
  have hg5e:=hg5
  rw[hg5e]
  replace hg5:=of_decide_eq_true hg5
  refine Yd (OD.move rfl rfl) ?_
  refine Zd (OD.pickT rfl rfl rfl) rfl ?_
  refine Za rfl (Zn (Zt ?_))
  refine GC.cond rfl (fun hc6=>?_) (fun hc6=>?_)
  replace hc6:=of_decide_eq_true hc6
  refine Zs (Zr (Zd (Qa Db 1 [_,_,_,_,_,_]) rfl ?_))
  refine Zm rfl (Zm rfl (Zm rfl ?_))
  refine Yt (Yc [.agg #[J (cr),vcd,vL,.map (some gmp),.map (some gqp),.map (some gk)],vx,vy,v2] bh (by exact(Spec.atIdx (i:=2) rfl (dx scd (Ent.drop 2 ecd) sL (Ent.drop 2 eL) (fun k hk=>(Ent.drop 2 (mL k hk))) lL aL (Ent.drop 2 hmp) (Ent.drop 2 hqp) sx (Ent.drop 2 ex) sy (Ent.drop 2 ey) hs3 (Ei 0) (hS) ((RM hS hx hy hz (by omega) (by omega)).1) ((RM hS hx hy hz (by omega) (by omega)).2.1) ((RM hS hx hy hz (by omega) (by omega)).2.2) (ew (by omega) (by omega) hm) (@ih) ((Ent.drop 2 htab)))))) ?_
  rintro _ _ ⟨rfl,rfl⟩
  refine Za rfl (Zn (Zt (GC.ret (GE.blockR (GE.passR ?_)))))
  exact GE.body [2] 2 (Ao rfl rfl) rfl (⟨rfl,rfl⟩)
  replace hc6:=of_decide_eq_false hc6
  refine Zs (Zr (Zm rfl (Zd (OD.not rfl rfl) rfl ?_)))
  refine Zm rfl ?_
  iterate 2 refine Yk ?_
  refine Zd (OD.pickF rfl rfl rfl) rfl ?_
  refine Za rfl (Zn (Zt (GC.condF rfl (Zs (Zr ?_)))))
  refine Zm rfl (Zd (OD.not rfl rfl) rfl ?_)
  refine Za rfl (Zn (Zt (GC.condF rfl (Zs (Zr ?_)))))
  refine Zm rfl (Yt (Yc [v2] KM (by exact(Et hs3 (Ei 0) (by omega)))) ?_)
  rintro _ _ ⟨rfl,rfl⟩
  refine Zd (OD.gtr rfl rfl rfl) rfl ?_
  refine Za rfl (Zn (Zt ?_))
  refine GC.cond rfl (fun hc7=>?_) (fun hc7=>?_)
  replace hc7:=of_decide_eq_true hc7
  refine Zs (Ya [(1,_),(2,_),(3,_),(6,_),(7,_)] ?_)
  refine Wp [Z0 60 (.agg #[J (cr),vcd,vL,.map (some gmp),.map (some gqp),.map (some gk)]),Z0 61 v2,Z1 62 [(0,60),(1,61)] (J (hn cr cd (Af x 1 y))),Z0 63 (.agg #[J (cr),vcd,vL,.map (some gmp),.map (some gqp),.map (some gk)]),Z0 64 vy,Z0 65 v2,⟨66,[(5,65)],[],[],[6],fun ds=>((ds.getD 0 []).getD 0 undef),fun ds=>Ab ((ds.getD 0 []).getD 0 undef),fun ds=>[ints 3 ((ds.getD 0 []).getD 0 undef) (Af (List.replicate (Af x 1 y).length 0) (-1) (Af x 1 y))]⟩,⟨67,[(3,63),(4,64),(6,66)],[6],[],[6],fun _=>J (nF cr cd y (Af (List.replicate (Af x 1 y).length 0) (-1) (Af x 1 y))),fun _=>True,fun _=>[]⟩,⟨68,[(2,62),(7,67)],[6],[],[6],fun _=>J (IntKind.i64.wrap ((hn cr cd (Af x 1 y))*(nF cr cd y (Af (List.replicate (Af x 1 y).length 0) (-1) (Af x 1 y))))),fun _=>True,fun _=>[]⟩,Z0 69 (.agg #[J (cr),vcd,vL,.map (some gmp),.map (some gqp),.map (some gk)]),Z0 70 vx,Z1 71 [(9,69),(10,70)] (J (hn cr cd x)),⟨72,[(8,68),(11,71)],[6],[],[6],fun _=>J (IntKind.i64.wrap ((IntKind.i64.wrap ((hn cr cd (Af x 1 y))*(nF cr cd y (Af (List.replicate (Af x 1 y).length 0) (-1) (Af x 1 y))))).tdiv (hn cr cd x))),fun _=>True,fun _=>[]⟩] (Zc (fun _ _ _=>Zq (Qa Db 1 [_,_,_,_,_,_]) rfl) (Yv (Zc (fun _ _ _=>Zq (Yc [.agg #[J (cr),vcd,vL,.map (some gmp),.map (some gqp),.map (some gk)],v2] GV (by exact(RR scd (Ent.drop 3 ecd.app) sL (Ent.drop 3 eL.app) (fun k hk=>(Ent.drop 3 ((mL k hk).app))) lL aL (Ent.drop 3 hmp.app) (Ent.drop 3 hqp.app) hs3 (Ei 0) (hS) (hz) ((Ent.drop 3 htab.app))))) rfl) (Zc (fun _ _ _=>Zq (Qa Db 1 [_,_,_,_,_,_]) rfl) (Yv (Yv (Zc (fun _ _ _=>AR.plain (OG.imp (Yc [J (-1),v2] FF (by exact(Bs hs3 (Ei 0) (by omega)))) (by rintro v8 _ ⟨_,rfl,hs9,rfl⟩;exact⟨[v8],rfl,hs9,rfl⟩)) rfl) (Zc (fun θ _ ⟨_,_,h6d,_⟩=>Zq (Yc [.agg #[J (cr),vcd,vL,.map (some gmp),.map (some gqp),.map (some gk)],vy,((θ 6).getD 0 undef)] Kc (by exact(Spec.atIdx (i:=3) rfl (ih scd (Ent.drop 3 ecd.app) sL (Ent.drop 3 eL.app) (fun k hk=>(Ent.drop 3 ((mL k hk).app))) lL aL (Ent.drop 3 hmp.app) (Ent.drop 3 hqp.app) sy (Ent.drop 3 ey.app) h6d (Ei 0) (hS) (hy) (EF hS hz) (cT hS hx hy hz (by omega) (by omega) (by omega) hm) ((Ent.drop 3 htab.app)))))) rfl) (Zc (fun _ _ _=>Zq CN rfl) (Zc (fun _ _ _=>Zq (Qa Db 1 [_,_,_,_,_,_]) rfl) (Yv (Zc (fun _ _ _=>Zq (Yc [.agg #[J (cr),vcd,vL,.map (some gmp),.map (some gqp),.map (some gk)],vx] GV (by exact(RR scd (Ent.drop 3 ecd.app) sL (Ent.drop 3 eL.app) (fun k hk=>(Ent.drop 3 ((mL k hk).app))) lL aL (Ent.drop 3 hmp.app) (Ent.drop 3 hqp.app) sx (Ent.drop 3 ex.app) (hS) (hx) ((Ent.drop 3 htab.app))))) rfl) (Zc (fun _ _ _=>Zq (OD.quo rfl rfl rfl (by first | omega | (simp only[List.length_set,List.length_replicate];omega))) rfl) As.nil))))))))))))) ?_
  intro θ hall
  obtain⟨_,_,_,_,_,_,h6a,_,_,_,_,_,_,_⟩:=hall
  refine Yb [(6,_),(72,J (IntKind.i64.wrap ((IntKind.i64.wrap ((hn cr cd (Af x 1 y))*(nF cr cd y (Af (List.replicate (Af x 1 y).length 0) (-1) (Af x 1 y))))).tdiv (hn cr cd x))))] (ints 3 ((θ 6).getD 0 undef) (Af (List.replicate (Af x 1 y).length 0) (-1) (Af x 1 y))::_::_) ?_
  have hs10:Ab ((θ 6).getD 0 undef):=h6a
  clear h6a
  generalize ((θ 6).getD 0 undef)=v11 at *
  show G _ _ _ [_] _ _ _ _
  refine Za rfl (Zn (Zt (GC.ret (GE.blockR (GE.passR ?_)))))
  exact GE.body [3] 3 (Ao rfl rfl) rfl (⟨congrArg (fun a0=>(J (a0):Value)) ((bS hS hx hy hz (by omega) (by omega) (by omega):(IntKind.i64.wrap ((IntKind.i64.wrap ((hn cr cd (Af x 1 y))*(nF cr cd y (Af (List.replicate (Af x 1 y).length 0) (-1) (Af x 1 y))))).tdiv (hn cr cd x)):Int)=nF cr cd x y)),rfl⟩)
  replace hc7:=of_decide_eq_false hc7
  refine Zk (GE.blockN (Zt (Zs ?_)))
  refine Ya [(1,_),(2,_),(3,_),(6,_),(7,_)] ?_
  refine Wp [Z0 73 (.agg #[J (cr),vcd,vL,.map (some gmp),.map (some gqp),.map (some gk)]),Z0 74 v2,Z1 75 [(0,73),(1,74)] (J (hn cr cd (Af x 1 y))),Z0 76 (.agg #[J (cr),vcd,vL,.map (some gmp),.map (some gqp),.map (some gk)]),Z0 77 v2,⟨78,[(4,77)],[],[],[5],fun ds=>((ds.getD 0 []).getD 0 undef),fun ds=>Ab ((ds.getD 0 []).getD 0 undef),fun ds=>[ints 3 ((ds.getD 0 []).getD 0 undef) (Af (List.replicate (Af x 1 y).length 0) (-1) (Af x 1 y))]⟩,Z0 79 vx,⟨80,[(3,76),(5,78),(6,79)],[5],[],[5],fun _=>J (nF cr cd (Af (List.replicate (Af x 1 y).length 0) (-1) (Af x 1 y)) x),fun _=>True,fun _=>[]⟩,⟨81,[(2,75),(7,80)],[5],[],[5],fun _=>J (IntKind.i64.wrap ((hn cr cd (Af x 1 y))*(nF cr cd (Af (List.replicate (Af x 1 y).length 0) (-1) (Af x 1 y)) x))),fun _=>True,fun _=>[]⟩,Z0 82 (.agg #[J (cr),vcd,vL,.map (some gmp),.map (some gqp),.map (some gk)]),Z0 83 vy,Z1 84 [(9,82),(10,83)] (J (hn cr cd y)),⟨85,[(8,81),(11,84)],[5],[],[5],fun _=>J (IntKind.i64.wrap ((IntKind.i64.wrap ((hn cr cd (Af x 1 y))*(nF cr cd (Af (List.replicate (Af x 1 y).length 0) (-1) (Af x 1 y)) x))).tdiv (hn cr cd y))),fun _=>True,fun _=>[]⟩] (Zc (fun _ _ _=>Zq (Qa Db 1 [_,_,_,_,_,_]) rfl) (Yv (Zc (fun _ _ _=>Zq (Yc [.agg #[J (cr),vcd,vL,.map (some gmp),.map (some gqp),.map (some gk)],v2] GV (by exact(RR scd (Ent.drop 3 ecd.app) sL (Ent.drop 3 eL.app) (fun k hk=>(Ent.drop 3 ((mL k hk).app))) lL aL (Ent.drop 3 hmp.app) (Ent.drop 3 hqp.app) hs3 (Ei 0) (hS) (hz) ((Ent.drop 3 htab.app))))) rfl) (Zc (fun _ _ _=>Zq (Qa Db 1 [_,_,_,_,_,_]) rfl) (Yv (Zc (fun _ _ _=>AR.plain (OG.imp (Yc [J (-1),v2] FF (by exact(Bs hs3 (Ei 0) (by omega)))) (by rintro v12 _ ⟨_,rfl,hs13,rfl⟩;exact⟨[v12],rfl,hs13,rfl⟩)) rfl) (Yv (Zc (fun θ _ ⟨_,h5d,_,_⟩=>Zq (Yc [.agg #[J (cr),vcd,vL,.map (some gmp),.map (some gqp),.map (some gk)],((θ 5).getD 0 undef),vx] Kc (by exact(Spec.atIdx (i:=3) rfl (ih scd (Ent.drop 3 ecd.app) sL (Ent.drop 3 eL.app) (fun k hk=>(Ent.drop 3 ((mL k hk).app))) lL aL (Ent.drop 3 hmp.app) (Ent.drop 3 hqp.app) h5d (Ei 0) sx (Ent.drop 3 ex.app) (hS) (EF hS hz) (hx) (cM hS hx hy hz (by omega) (by omega) (by omega) hm) ((Ent.drop 3 htab.app)))))) rfl) (Zc (fun _ _ _=>Zq CN rfl) (Zc (fun _ _ _=>Zq (Qa Db 1 [_,_,_,_,_,_]) rfl) (Yv (Zc (fun _ _ _=>Zq (Yc [.agg #[J (cr),vcd,vL,.map (some gmp),.map (some gqp),.map (some gk)],vy] GV (by exact(RR scd (Ent.drop 3 ecd.app) sL (Ent.drop 3 eL.app) (fun k hk=>(Ent.drop 3 ((mL k hk).app))) lL aL (Ent.drop 3 hmp.app) (Ent.drop 3 hqp.app) sy (Ent.drop 3 ey.app) (hS) (hy) ((Ent.drop 3 htab.app))))) rfl) (Zc (fun _ _ _=>Zq (OD.quo rfl rfl rfl (by first | omega | (simp only[List.length_set,List.length_replicate];omega))) rfl) As.nil))))))))))))) ?_
  intro θ hall
  obtain⟨_,_,_,_,_,h5a,_,_,_,_,_,_,_,_⟩:=hall
  refine Yb [(6,_),(85,J (IntKind.i64.wrap ((IntKind.i64.wrap ((hn cr cd (Af x 1 y))*(nF cr cd (Af (List.replicate (Af x 1 y).length 0) (-1) (Af x 1 y)) x))).tdiv (hn cr cd y))))] (ints 3 ((θ 5).getD 0 undef) (Af (List.replicate (Af x 1 y).length 0) (-1) (Af x 1 y))::_::_) ?_
  have hs14:Ab ((θ 5).getD 0 undef):=h5a
  clear h5a
  generalize ((θ 5).getD 0 undef)=v15 at *
  show G _ _ _ [_] _ _ _ _
  refine Za rfl (Zn (Zt (GC.ret ?_)))
  exact GE.body [3] 3 (Ao rfl rfl) rfl (⟨congrArg (fun a0=>(J (a0):Value)) ((c7 hS hx hy hz (by omega) (by omega) (by omega):(IntKind.i64.wrap ((IntKind.i64.wrap ((hn cr cd (Af x 1 y))*(nF cr cd (Af (List.replicate (Af x 1 y).length 0) (-1) (Af x 1 y)) x))).tdiv (hn cr cd y)):Int)=nF cr cd x y)),rfl⟩)
  have hg5e:=hg5
  rw[hg5e]
  replace hg5:=of_decide_eq_false hg5
  refine Yk ?_
  refine Zd (OD.pickF rfl rfl rfl) rfl ?_
  refine Za rfl (Zn (Zt (GC.condF rfl (Zs (Zr ?_)))))
  refine Zm rfl (Zd (OD.not rfl rfl) rfl ?_)
  refine Zm rfl (Yd (OD.move rfl rfl) ?_)
  refine Yd (OD.not rfl rfl) ?_
  refine Zd (OD.pickT rfl rfl rfl) rfl ?_
  refine Za rfl (Zn (Zt ?_))
  refine GC.cond rfl (fun hc16=>?_) (fun hc16=>?_)
  replace hc16:=Ai hc16
  have hc16p:=of_decide_eq_false hc16
  refine Zs (Ya [(1,_),(2,_),(3,_),(6,_)] ?_)
  refine Wp [Z0 41 (.agg #[J (cr),vcd,vL,.map (some gmp),.map (some gqp),.map (some gk)]),Z0 42 vx,⟨43,[(1,42)],[],[],[2],fun ds=>((ds.getD 0 []).getD 0 undef),fun ds=>Ab ((ds.getD 0 []).getD 0 undef),fun ds=>[ints 3 ((ds.getD 0 []).getD 0 undef) (Af (List.replicate x.length 0) (-1) x)]⟩,Z0 44 vy,⟨45,[(3,44)],[],[],[4],fun ds=>((ds.getD 0 []).getD 0 undef),fun ds=>Ab ((ds.getD 0 []).getD 0 undef),fun ds=>[ints 3 ((ds.getD 0 []).getD 0 undef) (Af (List.replicate y.length 0) (-1) y)]⟩,⟨46,[(0,41),(2,43),(4,45)],[2,4],[],[2,4],fun _=>J (nF cr cd (Af (List.replicate x.length 0) (-1) x) (Af (List.replicate y.length 0) (-1) y)),fun _=>True,fun _=>[]⟩,⟨47,[(5,46)],[2,4],[],[2,4],fun _=>J (IntKind.i64.wrap (0 - nF cr cd (Af (List.replicate x.length 0) (-1) x) (Af (List.replicate y.length 0) (-1) y))),fun _=>True,fun _=>[]⟩] (Zc (fun _ _ _=>Zq (Qa Db 1 [_,_,_,_,_,_]) rfl) (Yv (Zc (fun _ _ _=>AR.plain (OG.imp (Yc [J (-1),vx] FF (by exact(Bs sx (Ent.drop 3 ex.app) (by omega)))) (by rintro v17 _ ⟨_,rfl,hs18,rfl⟩;exact⟨[v17],rfl,hs18,rfl⟩)) rfl) (Yv (Zc (fun _ _ _=>AR.plain (OG.imp (Yc [J (-1),vy] FF (by exact(Bs sy (Ent.drop 3 ey.app) (by omega)))) (by rintro v19 _ ⟨_,rfl,hs20,rfl⟩;exact⟨[v19],rfl,hs20,rfl⟩)) rfl) (Zc (fun θ _ ⟨_,h2d,h4d,_⟩=>Zq (Yc [.agg #[J (cr),vcd,vL,.map (some gmp),.map (some gqp),.map (some gk)],((θ 2).getD 0 undef),((θ 4).getD 0 undef)] Kc (by exact(Spec.atIdx (i:=4) rfl (ih scd (Ent.drop 4 ecd.app) sL (Ent.drop 4 eL.app) (fun k hk=>(Ent.drop 4 ((mL k hk).app))) lL aL (Ent.drop 4 hmp.app) (Ent.drop 4 hqp.app) h2d (Ei 0) h4d (Ei 1) (hS) (EF hS hx) (EF hS hy) (eD hS hx hy (by omega) (by omega) hm) ((Ent.drop 4 htab.app)))))) rfl) (Zc (fun _ _ _=>Zq (OD.neg rfl rfl) rfl) As.nil))))))) ?_
  intro θ hall
  obtain⟨_,_,h2a,_,h4a,_,_,_⟩:=hall
  refine Yb [(6,_),(47,J (IntKind.i64.wrap (0 - nF cr cd (Af (List.replicate x.length 0) (-1) x) (Af (List.replicate y.length 0) (-1) y))))] (ints 3 ((θ 2).getD 0 undef) (Af (List.replicate x.length 0) (-1) x)::ints 3 ((θ 4).getD 0 undef) (Af (List.replicate y.length 0) (-1) y)::_::_) ?_
  have hs21:Ab ((θ 2).getD 0 undef):=h2a
  clear h2a
  generalize ((θ 2).getD 0 undef)=v22 at *
  have hs23:Ab ((θ 4).getD 0 undef):=h4a
  clear h4a
  generalize ((θ 4).getD 0 undef)=v24 at *
  show G _ _ _ [_] _ _ _ _
  refine Za rfl (Zn (Zt (GC.ret (GE.blockR (GE.passR ?_)))))
  exact GE.body [4] 4 (Ao rfl rfl) rfl (⟨congrArg (fun a0=>(J (a0):Value)) ((dB hS hx hy (by omega) (by omega):(IntKind.i64.wrap (0 - nF cr cd (Af (List.replicate x.length 0) (-1) x) (Af (List.replicate y.length 0) (-1) y)):Int)=nF cr cd x y)),rfl⟩)
  replace hc16:=Am hc16
  have hc16p:=of_decide_eq_true hc16
  refine Zs (Zr (Zm rfl (Zd (OD.not rfl rfl) rfl ?_)))
  refine Za rfl (Zn (Zt (GC.condT rfl (Zs (Zr ?_)))))
  refine Zd (Qa Db 1 [_,_,_,_,_,_]) rfl ?_
  refine Zm rfl (Zm rfl (Yt (Yc [.agg #[J (cr),vcd,vL,.map (some gmp),.map (some gqp),.map (some gk)],vy,vx] Kc (by exact(Spec.atIdx (i:=2) rfl (ih scd (Ent.drop 2 ecd) sL (Ent.drop 2 eL) (fun k hk=>(Ent.drop 2 (mL k hk))) lL aL (Ent.drop 2 hmp) (Ent.drop 2 hqp) sy (Ent.drop 2 ey) sx (Ent.drop 2 ex) (hS) (hy) (hx) (fa hS hx (by omega) (by omega) hm) ((Ent.drop 2 htab)))))) ?_))
  rintro _ _ ⟨rfl,rfl⟩
  refine Zd (OD.neg rfl rfl) rfl ?_
  refine Za rfl (Zn (Zt (GC.ret (GE.blockR (GE.passR ?_)))))
  exact GE.body [2] 2 (Ao rfl rfl) rfl (⟨congrArg (fun a0=>(J (a0):Value)) ((aq hS hx hy (by omega) (by omega):(IntKind.i64.wrap (0 - nF cr cd y x):Int)=nF cr cd x y)),rfl⟩)
theorem KA {W:World}{own:List Asn}{cr:Int}{vcd:Value}{cd:List Int}(scd:Ab vcd)(ecd:Ent own fun w=>Ints w vcd cd)(hS:(Ax cr cd).isSome=true)(htab:Ent own Cm):Spec Tryz.prog 40 [.agg #[J (cr),vcd]] W own (fun v ow=>∃ (r2:Value) (u2:List Value) (g3:Nat) (g4:Nat) (g5:Nat),v = .agg #[J (cr),vcd,r2,.map (some g3),.map (some g4),.map (some g5)]∧Ab r2∧AllS u2∧u2.length=(rSt cr cd).length∧ow=lst 22 r2 u2::many (ints 3) u2 (rSt cr cd)::mapA Bc valI g3 (A7 cr cd)::mapA Bc valI g4 (Lg cr cd)::mapA keyP valI g5 []::own):=by
 have hcr:=(AB hS).1
 have hcd:=(AB hS).2
 have hRf:(rSt cr cd).length≤30:=by have h1:=(rtOk hS).slen;have h2:=(rtOk hS).few;omega
 refine Spec.enter Tryz.f40 _ Tryz.func40 rfl (n:=30) rfl rfl ?_
 refine Zs (Zr (Yt (OG.box (cs:=[J (cr),vcd]) rfl rfl rfl) ?_))
 rintro _ _ ⟨g1,rfl,rfl⟩
 refine Yt (OG.alloc rfl Db (zs:=[J (0),.slice none 0 0,.slice none 0 0,.map none,.map none,.map none]) rfl) ?_
 rintro _ _ ⟨g2,rfl,rfl⟩
 refine Zn (Zt (Zs (Zr (Zd (Qa An 1 [_,_]) rfl ?_))))
 refine Yt (Yc [.agg #[J (cr),vcd]] T9 (by exact(FV scd (Ent.drop 2 ecd) (hcr) (hcd) (hS) ((Ent.drop 2 htab))))) ?_
 rintro _ _ ⟨v3,u4,g8,rfl,hs5,hs6,hs7,rfl⟩
 refine Yt (OG.makeMap Bc valI rfl rfl) ?_
 rintro _ _ ⟨g9,rfl,rfl⟩
 refine Yt (OG.makeMap keyP valI rfl rfl) ?_
 rintro _ _ ⟨g10,rfl,rfl⟩
 refine Zd (OD.build (idx:=[0,1,2]) (xs:=[.tmp 7,.tmp 8,.tmp 9]) (vs:=[.agg #[J (cr),vcd,v3,.map (some g8)],.map (some g9),.map (some g10)]) (cs:=[[J (cr),vcd,v3,.map (some g8)],[.map (some g9)],[.map (some g10)]]) (zs:=[J (0),.slice none 0 0,.slice none 0 0,.map none,.map none,.map none]) (r:=[J (cr),vcd,v3,.map (some g8),.map (some g9),.map (some g10)]) rfl Db rfl rfl rfl ⟨rfl,⟨rfl,⟨rfl,trivial⟩⟩⟩ rfl) rfl ?_
 refine Yt (OG.alloc rfl Db (zs:=[J (0),.slice none 0 0,.slice none 0 0,.map none,.map none,.map none]) rfl) ?_
 rintro _ _ ⟨g11,rfl,rfl⟩
 refine Yu Db [J (cr),vcd,v3,.map (some g8),.map (some g9),.map (some g10)] 0 (Ad rfl (Ad (Ab.one scd) (Ad (Ab.one hs5) (Ad rfl (Ad rfl (Ad rfl rfl)))))) ?_
 refine Zn (Zt (Zs (Zs (Zr (Zd (Qf GP) rfl ?_)))))
 refine Zd (Qf BR) rfl ?_
 refine Zd (Ql DZ 0) rfl ?_
 refine Zd (Qn AM (Ent.lst (i:=3) rfl)) rfl ?_
 refine Zm rfl (Zn (Zt (GC.block ?_)))
 refine Yl (ι:=Nat) (fun k=>[(1,Pg g1 0),(2,Pg g2 0),(3,Pg g11 0),(13,v3),(14,J ((u4.length:Nat))),(15,J ((k:Int)))]) (fun k=>box g11 66 [J (cr),vcd,v3,.map (some g8),.map (some g9),.map (some g10)]::mapA keyP valI g10 []::mapA Bc valI g9 (Xj cr cd k)::lst 22 v3 u4::many (ints 3) u4 (rSt cr cd)::mapA Bc valI g8 (A7 cr cd)::box g2 66 [J (0),.slice none 0 0,.slice none 0 0,.map none,.map none,.map none]::box g1 27 [J (cr),vcd]::own) (fun k=>(k≤(rSt cr cd).length)) (fun k=>(rSt cr cd).length - k) 0 (by omega) [] 0 ?_
 rintro k hk
 refine Zs (Zr (Zd Bb rfl ?_))
 refine Zn (Zt (Zs ?_))
 refine GC.cond rfl (fun hc12=>?_) (fun hc12=>?_)
 replace hc12:=of_decide_eq_true hc12
 have hrk:=Au (Bh (show k<(rSt cr cd).length by omega))
 obtain⟨hrl,hr10,_⟩:=Aw hS hrk
 have hr64:=DF hS hrk
 have hrw:Dk cr ((rSt cr cd).getD (k) [])=true:=Ey (by omega) fun j _=>by have:=hr10 j;omega
 have hin:=PH hS hrw hrw
 refine Zk (Zt (Zs (GC.block (Zs (Zr ?_)))))
 refine Zd (Qi AM (Ent.lst (i:=3) rfl)) rfl ?_
 refine Zd (OD.loadElem rfl AH rfl (Ent.lst (i:=3) rfl) (by omega) rfl) rfl ?_
 refine Za rfl (Zn (Zt (Ya [(1,_),(2,_),(3,_),(13,_),(14,_),(15,_),(5,_)] ?_)))
 refine Wp [Z0 19 (Pg g11 4),Z1 20 [(0,19)] (.map (some g9)),Z0 21 ((u4.getD (k) undef)),Z1 22 [(2,21)] (.string (Ca ((rSt cr cd).getD (k) []))),Z0 23 (.agg #[J (cr),vcd]),Z0 24 ((u4.getD (k) undef)),Z0 25 ((u4.getD (k) undef)),Z1 26 [(4,23),(5,24),(6,25)] (J (EH cr cd ((rSt cr cd).getD (k) []) ((rSt cr cd).getD (k) []))),Z1 27 [(7,26)] (J (IntKind.i64.wrap ((EH cr cd ((rSt cr cd).getD (k) []) ((rSt cr cd).getD (k) [])).tdiv 2)))] (Zc (fun _ _ _=>Zq (Qf PV) rfl) (Zc (fun _ _ _=>Zq (Ql GZ 0) rfl) (Yv (Zc (fun _ _ _=>Zq (Yc [(u4.getD (k) undef)] E8 (by exact(Ba (hs6.get (by omega)) (Ent.manyInts (i:=4) rfl ⟨by first | omega | (simp;omega),by first | omega | (simp;omega)⟩) (hr64) (by omega) ((Ent.drop 8 htab.app))))) rfl) (Zc (fun _ _ _=>Zq (Qa An 7 [_,_]) rfl) (Yv (Yv (Zc (fun _ _ _=>Zq (Yc [.agg #[J (cr),vcd],(u4.getD (k) undef),(u4.getD (k) undef)] ZV (by exact(Q8 scd (Ent.drop 8 ecd.app) (hs6.get (by omega)) (Ent.manyInts (i:=4) rfl ⟨by first | omega | (simp;omega),by first | omega | (simp;omega)⟩) (hs6.get (by omega)) (Ent.manyInts (i:=4) rfl ⟨by first | omega | (simp;omega),by first | omega | (simp;omega)⟩) (hS) (by omega) (by omega)))) rfl) (Zc (fun _ _ _=>Zq (OD.quo rfl rfl rfl (by omega)) rfl) As.nil))))))))) ?_
 intro θ _
 refine Yb [(1,_),(2,_),(3,_),(13,_),(14,_),(15,_),(20,.map (some g9)),(22,.string (Ca ((rSt cr cd).getD (k) []))),(27,J (IntKind.i64.wrap ((EH cr cd ((rSt cr cd).getD (k) []) ((rSt cr cd).getD (k) [])).tdiv 2)))] (_::_) ?_
 show G _ _ _ [_] _ _ _ _
 refine G.stepD0 (OD.mapUpdate (kE:=Bc) (vE:=valI) (l:=Xj cr cd k) (k:=((rSt cr cd).getD (k) [])) (b:=(IntKind.i64.wrap ((EH cr cd ((rSt cr cd).getD (k) []) ((rSt cr cd).getD (k) [])).tdiv 2):Int)) rfl GY.ht De rfl rfl rfl (i:=2) rfl) rfl rfl ?_
 refine Zn (GE.blockN (Zt (Zr ?_)))
 refine Zd Qp rfl ?_
 refine Zm rfl (Zn (GE.ownEq (own':=box g11 66 [J (cr),vcd,v3,.map (some g8),.map (some g9),.map (some g10)]::mapA keyP valI g10 []::mapA Bc valI g9 (Xj cr cd (k+1))::lst 22 v3 u4::many (ints 3) u4 (rSt cr cd)::mapA Bc valI g8 (A7 cr cd)::box g2 66 [J (0),.slice none 0 0,.slice none 0 0,.map none,.map none,.map none]::box g1 27 [J (cr),vcd]::own) (by rw[Oh] <;> rfl) ?_))
 exact Yg (k+1) (by omega) [] 0
 replace hc12:=of_decide_eq_false hc12
 have hke:k=(rSt cr cd).length:=by omega
 refine GC.exit (Zp (Zp (GE.hit (Zt (Zs (Zr ?_))))))
 refine Zd (Qa Db 0 [_,_,_,_,_,_]) rfl ?_
 refine Yu Db [J (cr),vcd,v3,.map (some g8),.map (some g9),.map (some g10)] 6 (Ad rfl (Ad (Ab.one scd) (Ad (Ab.one hs5) (Ad rfl (Ad rfl (Ad rfl rfl)))))) ?_
 refine Zn (Zt (GC.ret ?_))
 exact GE.body [3,3,3,2,1] 3 (AZ rfl (RVs.cons (Ag Db rfl (i:=6) rfl rfl) RVs.nil) rfl) rfl (⟨v3,u4,g8,g9,g10,rfl,hs5,hs6,(by assumption),congrArg (fun(l2:List (List Int × Int))=>lst 22 v3 u4::many (ints 3) u4 (rSt cr cd)::mapA Bc valI g8 (A7 cr cd)::mapA Bc valI g9 l2::mapA keyP valI g10 []::own) ((by rw[hke] <;> rfl:Xj cr cd k=Lg cr cd))⟩)
end Go.Proofs.YtbmnnbglipkidaaGreatDoor
