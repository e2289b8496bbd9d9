/-
  Constants of roots by the first text: contracts by walks.
-/
import Derived.Test.YtbmnnbglipkidaaGreatDoorFct
import Derived.Test.YtbmnnbglipkidaaGreatDoorWIdx
import Derived.Test.YtbmnnbglipkidaaGreatDoorWLen
import Derived.Test.YtbmnnbglipkidaaGreatDoorZ20
import Derived.Test.YtbmnnbglipkidaaGreatDoorCnx
namespace Go.Proofs.YtbmnnbglipkidaaGreatDoor
set_option maxRecDepth 100000
set_option maxHeartbeats 4000000
set_option linter.unusedVariables false
set_option linter.unusedSimpArgs false
open Go.RowKit
theorem ti66:TI Tryz.prog 66 true 6 (.agg #[.int .i64 (0),.slice none 0 0,.slice none 0 0,.map none,.map none,.map none]) [(0,4),(4,1),(5,1)]:=⟨fun w=>by kernel_rfl,by kernel_rfl,fun _=>⟨_,Tryz.underlying66,fun w=>by kernel_rfl⟩⟩
theorem fa66_0:∀ (b k:Nat) w,(Instr.fieldAt 66 (.pointer (some ⟨b,k,none⟩)) 0).run Tryz.prog w = .ok (.pointer (some ⟨b,k+0,none⟩)) w:=fun b k w=>by kernel_rfl
theorem fa66_1:∀ (b k:Nat) w,(Instr.fieldAt 66 (.pointer (some ⟨b,k,none⟩)) 1).run Tryz.prog w = .ok (.pointer (some ⟨b,k+4,none⟩)) w:=fun b k w=>by kernel_rfl
theorem fa66_2:∀ (b k:Nat) w,(Instr.fieldAt 66 (.pointer (some ⟨b,k,none⟩)) 2).run Tryz.prog w = .ok (.pointer (some ⟨b,k+5,none⟩)) w:=fun b k w=>by kernel_rfl
theorem ent40:∀ us w,(callFunc 40 us).run Tryz.prog w = .ok (.enter 40 us) w:=fun us w=>by kernel_rfl
theorem ent41:∀ us w,(callFunc 41 us).run Tryz.prog w = .ok (.enter 41 us) w:=fun us w=>by kernel_rfl
theorem ent57:∀ us w,(callFunc 57 us).run Tryz.prog w = .ok (.enter 57 us) w:=fun us w=>by kernel_rfl
theorem ent99:∀ us w,(callFunc 99 us).run Tryz.prog w = .ok (.enter 99 us) w:=fun us w=>by kernel_rfl
theorem ent100:∀ us w,(callFunc 100 us).run Tryz.prog w = .ok (.enter 100 us) w:=fun us w=>by kernel_rfl
theorem ent101:∀ us w,(callFunc 101 us).run Tryz.prog w = .ok (.enter 101 us) w:=fun us w=>by kernel_rfl
theorem ent154:∀ us w,(callFunc 154 us).run Tryz.prog w = .ok (.enter 154 us) w:=fun us w=>by kernel_rfl
theorem ke9keyP:KeyE Tryz.prog 9 keyP:=keyP_E Tryz.underlying9
theorem cN_w {W:World}{own:List Asn}{cr:Int}{vcd:Value}{cd:List Int}{vL:Value}{uL:List Value}{gmp:Nat}{gqp:Nat}{gk:Nat}{vx:Value}{x:List Int}(scd:IsS vcd)(ecd:Ent own fun w=>Ints w vcd cd)(sL:IsS vL)(eL:Ent own fun w=>Sl w vL (rSt cr cd).length 1 uL)(mL:∀ k,k<(rSt cr cd).length→Ent own fun w=>Ints w (uL.getD k undef) ((rSt cr cd).getD k []))(lL:uL.length=(rSt cr cd).length)(aL:AllS uL)(hmp:Ent own (MapIs keyL valI gmp (rKvs cr cd)))(hqp:Ent own (MapIs keyL valI gqp (hfK cr cd)))(sx:IsS vx)(ex:Ent own fun w=>Ints w vx x)(hS:(tyS cr cd).isSome=true)(hx:rtB (rSt cr cd) x=true)(htab:Ent own Pow10):Spec Tryz.prog 101 [.agg #[.int .i64 (cr),vcd,vL,.map (some gmp),.map (some gqp),.map (some gk)],vx] W own (fun v ow=>v = .int .i64 (hn cr cd x)∧ow=own):=by
 have hlx:=(rt_tens hS hx).1
 have hr4:=(rt_tens hS hx).2.2
 have hnl:=ngF_len x
 refine Spec.enter Tryz.f101 _ Tryz.func101 rfl (n:=15) rfl rfl ?_
 refine Zs (Zr (G.step (OG.box (cs:=[.int .i64 (cr),vcd,vL,.map (some gmp),.map (some gqp),.map (some gk)]) rfl rfl rfl) rfl rfl rfl ?_))
 rintro _ _ ⟨g1,rfl,rfl⟩
 refine Za rfl (Zn (Zt (Zs (Zs (Zr (Zm rfl (G.step (OG.call [vx] ent99 rfl rfl rfl rfl (by exact(sumOf_w sx (Ent.drop 1 ex) (by omega)))) rfl rfl rfl ?_)))))))
 rintro _ _ ⟨rfl,rfl⟩
 refine Zd (OD.lss rfl rfl rfl) rfl ?_
 refine Zn (Zt ?_)
 refine GC.cond rfl (fun hc2=>?_) (fun hc2=>?_)
 replace hc2:=of_decide_eq_true hc2
 refine Zr (Zm rfl (G.step (OG.call [.int .i64 (-1),vx] ent54 rfl rfl rfl rfl (by exact(listTimes_w sx (Ent.drop 1 ex) (by omega)))) rfl rfl rfl ?_))
 rintro v3 _ ⟨_,rfl,hs4,rfl⟩
 refine Za rfl (Zn (Zt (Zs (GC.at [] 0 (env':=[(2,.pointer (some ⟨g1,0,none⟩)),(4,.int .i64 (0)),(1,v3)]) ⟨rfl,rfl,rfl,trivial⟩ rfl ?_))))
 refine GC.par (its:=[Z0 10 (.pointer (some ⟨g1,4,none⟩)),
     Z1 11 [(0,10)] (.map (some gqp)),
     Z0 12 v3,
     Z1 13 [(2,12)] (.string (fmtB (lpF (List.replicate x.length 0) (-1) x))),
     Z1 14 [(1,11),(3,13)] (.int .i64 ((alu (lpF (List.replicate x.length 0) (-1) x) (hfK cr cd)).getD 0))]) (by kernel_rfl) (by kernel_rfl) (Zc ?_ (Zc ?_ (Zc ?_ (Zc ?_ (Zc ?_ POps.nil))))) ?_
 exact fun θ R hd=>Zq (OD.fieldAddr rfl rfl fa66_1) rfl
 exact fun θ R ⟨h0d,_⟩=>Zq (OD.load rfl ti62 rfl (i:=1) rfl rfl) rfl
 exact fun θ R hd=>Zq (OD.move rfl rfl) rfl
 exact fun θ R ⟨h2d,_⟩=>Zq (OG.call [v3] ent98 rfl rfl rfl rfl (by exact(formatInts_w hs4 (Ent.ints (i:=0) rfl) (ngF_all64 x) (by unfold ngF at hnl;omega) ((Ent.drop 2 htab.app))))) rfl
 exact fun θ R ⟨h1d,h3d,_⟩=>Zq (OD.lookup (k:=(lpF (List.replicate x.length 0) (-1) x)) rfl mt62 ke9keyL rfl rfl (Ent.drop 2 hqp.app)) rfl
 intro θ hall
 obtain⟨_,_,_,_,_,_⟩:=hall
 refine G.at [] 0 (env':=[(4,.int .i64 (0)),(14,.int .i64 ((alu (lpF (List.replicate x.length 0) (-1) x) (hfK cr cd)).getD 0))]) ⟨rfl,rfl,trivial⟩ (own':=ints 3 v3 (lpF (List.replicate x.length 0) (-1) x)::box g1 66 [.int .i64 (cr),vcd,vL,.map (some gmp),.map (some gqp),.map (some gk)]::own) rfl ?_
 show G _ _ _ [_] _ _ _ _
 refine Za rfl (Zn (Zt (GC.ret ?_)))
 exact GE.body [] 2 (res1 rfl rfl) rfl (⟨congrArg (fun(a0:Int)=>(.int .i64 (a0):Value)) ((cN_neg hS hx hc2:((alu (lpF (List.replicate x.length 0) (-1) x) (hfK cr cd)).getD 0:Int)=hn cr cd x)),rfl⟩)
 replace hc2:=of_decide_eq_false hc2
 refine Zk (Zt (Zs (GC.at [] 0 (env':=[(1,vx),(2,.pointer (some ⟨g1,0,none⟩)),(4,.int .i64 (0))]) ⟨rfl,rfl,rfl,trivial⟩ rfl ?_)))
 refine GC.par (its:=[Z0 10 (.pointer (some ⟨g1,4,none⟩)),
     Z1 11 [(0,10)] (.map (some gqp)),
     Z0 12 vx,
     Z1 13 [(2,12)] (.string (fmtB x)),
     Z1 14 [(1,11),(3,13)] (.int .i64 ((alu x (hfK cr cd)).getD 0))]) (by kernel_rfl) (by kernel_rfl) (Zc ?_ (Zc ?_ (Zc ?_ (Zc ?_ (Zc ?_ POps.nil))))) ?_
 exact fun θ R hd=>Zq (OD.fieldAddr rfl rfl fa66_1) rfl
 exact fun θ R ⟨h0d,_⟩=>Zq (OD.load rfl ti62 rfl (i:=0) rfl rfl) rfl
 exact fun θ R hd=>Zq (OD.move rfl rfl) rfl
 exact fun θ R ⟨h2d,_⟩=>Zq (OG.call [vx] ent98 rfl rfl rfl rfl (by exact(formatInts_w sx (Ent.drop 1 ex.app) (rt_64 hS hx) (by omega) ((Ent.drop 1 htab.app))))) rfl
 exact fun θ R ⟨h1d,h3d,_⟩=>Zq (OD.lookup (k:=x) rfl mt62 ke9keyL rfl rfl (Ent.drop 1 hqp.app)) rfl
 intro θ hall
 obtain⟨_,_,_,_,_,_⟩:=hall
 refine G.at [] 0 (env':=[(4,.int .i64 (0)),(14,.int .i64 ((alu x (hfK cr cd)).getD 0))]) ⟨rfl,rfl,trivial⟩ (own':=box g1 66 [.int .i64 (cr),vcd,vL,.map (some gmp),.map (some gqp),.map (some gk)]::own) rfl ?_
 show G _ _ _ [_] _ _ _ _
 refine Za rfl (Zn (Zt (GC.ret ?_)))
 exact GE.body [] 1 (res1 rfl rfl) rfl (⟨congrArg (fun(a0:Int)=>(.int .i64 (a0):Value)) ((cN_pos hS hx hc2:((alu x (hfK cr cd)).getD 0:Int)=hn cr cd x)),rfl⟩)
theorem cShare_w {W:World}{own:List Asn}{cr:Int}{vcd:Value}{cd:List Int}{vL:Value}{uL:List Value}{gmp:Nat}{gqp:Nat}{gk:Nat}{va:Value}{a:List Int}{vb:Value}{b:List Int}{vc:Value}{c:List Int}{ve:Value}{e:List Int}(scd:IsS vcd)(ecd:Ent own fun w=>Ints w vcd cd)(sL:IsS vL)(eL:Ent own fun w=>Sl w vL (rSt cr cd).length 1 uL)(mL:∀ k,k<(rSt cr cd).length→Ent own fun w=>Ints w (uL.getD k undef) ((rSt cr cd).getD k []))(lL:uL.length=(rSt cr cd).length)(aL:AllS uL)(hmp:Ent own (MapIs keyL valI gmp (rKvs cr cd)))(hqp:Ent own (MapIs keyL valI gqp (hfK cr cd)))(sa:IsS va)(ea:Ent own fun w=>Ints w va a)(sb:IsS vb)(eb:Ent own fun w=>Ints w vb b)(sc:IsS vc)(ec:Ent own fun w=>Ints w vc c)(se:IsS ve)(ee:Ent own fun w=>Ints w ve e){f:Nat}(hS:(tyS cr cd).isSome=true)(ha:rtB (rSt cr cd) a=true)(hb:rtB (rSt cr cd) b=true)(hc:rtB (rSt cr cd) c=true)(he:rtB (rSt cr cd) e=true)(hmab:cnM a b<f)(hmce:cnM c e<f)(ih:∀ {W:World} {own:List Asn} {cr:Int} {vcd:Value} {cd:List Int} {vL:Value} {uL:List Value} {gmp:Nat} {gqp:Nat} {gk:Nat} {vx:Value} {x:List Int} {vy:Value} {y:List Int} (scd:IsS vcd) (ecd:Ent own fun w=>Ints w vcd cd) (sL:IsS vL) (eL:Ent own fun w=>Sl w vL (rSt cr cd).length 1 uL) (mL:∀ k,k<(rSt cr cd).length→Ent own fun w=>Ints w (uL.getD k undef) ((rSt cr cd).getD k [])) (lL:uL.length=(rSt cr cd).length) (aL:AllS uL) (hmp:Ent own (MapIs keyL valI gmp (rKvs cr cd))) (hqp:Ent own (MapIs keyL valI gqp (hfK cr cd))) (sx:IsS vx) (ex:Ent own fun w=>Ints w vx x) (sy:IsS vy) (ey:Ent own fun w=>Ints w vy y) (hS:(tyS cr cd).isSome=true) (hx:rtB (rSt cr cd) x=true) (hy:rtB (rSt cr cd) y=true) (hm:cnM x y<f) (htab:Ent own Pow10),Spec Tryz.prog 41 [.agg #[.int .i64 (cr),vcd,vL,.map (some gmp),.map (some gqp),.map (some gk)],vx,vy] W (memA gk cr cd::own) (fun v ow=>v = .int .i64 (nF cr cd x y)∧ow=memA gk cr cd::own))(htab:Ent own Pow10):Spec Tryz.prog 154 [.agg #[.int .i64 (cr),vcd,vL,.map (some gmp),.map (some gqp),.map (some gk)],va,vb,vc,ve] W (memA gk cr cd::own) (fun v ow=>v = .int .i64 (shF cr cd a b c e)∧ow=memA gk cr cd::own):=by
 have hla:=(rt_tens hS ha).1
 have hlb:=(rt_tens hS hb).1
 have hlc:=(rt_tens hS hc).1
 have hle:=(rt_tens hS he).1
 have hr4:=(rt_tens hS ha).2.2
 have hcr:=(tyS_ok hS).1
 refine Spec.enter Tryz.f154 _ Tryz.func154 rfl (n:=34) rfl rfl ?_
 refine Zs (Zr (G.step (OG.box (cs:=[.int .i64 (cr),vcd,vL,.map (some gmp),.map (some gqp),.map (some gk)]) rfl rfl rfl) rfl rfl rfl ?_))
 rintro _ _ ⟨g1,rfl,rfl⟩
 refine Za rfl (Zn (Zt (Zs (Zr (Zm rfl (Zm rfl (G.step (OG.call [va,.int .i64 (1),vb] ent68 rfl rfl rfl rfl (by exact(listPlus_w sa (Ent.drop 2 ea) sb (Ent.drop 2 eb) (by omega) (by omega)))) rfl rfl rfl ?_)))))))
 rintro v2 _ ⟨_,rfl,hs3,rfl⟩
 refine Za rfl (Zn (Zt (Zs (Zs (Zr (Zd (OD.fieldAddr rfl rfl fa66_0) rfl ?_))))))
 refine Zd (OD.loadAgg rfl ti64 rfl (i:=1) rfl (us:=[.int .i64 (cr),vcd,vL,.map (some gmp)]) rfl rfl) rfl ?_
 refine Zm rfl (G.step (OG.call [.agg #[.int .i64 (cr),vcd,vL,.map (some gmp)],v2] ent52 rfl rfl rfl rfl (by exact(has_w scd sL (Ent.drop 3 eL) (Ent.drop 3 hmp) hs3 (Ent.ints (i:=0) rfl) (by omega) (lpF_all64 (rt_64 hS ha)) (by rw[lpF_len];omega) ((Ent.drop 3 htab))))) rfl rfl rfl ?_)
 rintro _ _ ⟨rfl,rfl⟩
 refine Zd (OD.not rfl rfl) rfl ?_
 refine Zn (Zt ?_)
 refine GC.cond rfl (fun hc4=>?_) (fun hc4=>?_)
 replace hc4:=eq_false_of_not hc4
 refine Zs (Zr (Za rfl (Zn (Zt (GC.ret (GE.passR ?_))))))
 exact GE.body [2] 2 (res1 rfl rfl) rfl (⟨congrArg (fun(a0:Int)=>(.int .i64 (a0):Value)) ((sh_no hS ha hb ((of_rt hS ha hb).symm.trans hc4):(0:Int)=shF cr cd a b c e)),rfl⟩)
 replace hc4:=eq_true_of_not hc4
 refine Zk (Zt (Zs ?_))
 have hzz:=hn_bd hS ((of_rt hS ha hb).symm.trans hc4)
 refine GC.at [] 0 (env':=[(1,va),(2,vb),(3,vc),(4,ve),(5,.pointer (some ⟨g1,0,none⟩)),(10,.int .i64 (0)),(11,v2)]) ⟨rfl,rfl,rfl,rfl,rfl,rfl,rfl,trivial⟩ rfl ?_
 refine GC.par (its:=[Z0 20 (.agg #[.int .i64 (cr),vcd,vL,.map (some gmp),.map (some gqp),.map (some gk)]),
     Z0 21 va,
     Z0 22 vb,
     Z1 23 [(0,20),(1,21),(2,22)] (.int .i64 (nF cr cd a b)),
     Z1 24 [(3,23)] (.int .i64 (IntKind.i64.wrap (6*(nF cr cd a b)))),
     Z0 25 (.agg #[.int .i64 (cr),vcd,vL,.map (some gmp),.map (some gqp),.map (some gk)]),
     Z0 26 vc,
     Z0 27 ve,
     Z1 28 [(5,25),(6,26),(7,27)] (.int .i64 (nF cr cd c e)),
     Z1 29 [(4,24),(8,28)] (.int .i64 (IntKind.i64.wrap ((IntKind.i64.wrap (6*(nF cr cd a b)))*(nF cr cd c e)))),
     Z0 30 (.agg #[.int .i64 (cr),vcd,vL,.map (some gmp),.map (some gqp),.map (some gk)]),
     Z0 31 v2,
     Z1 32 [(10,30),(11,31)] (.int .i64 (hn cr cd (lpF a 1 b))),
     Z1 33 [(9,29),(12,32)] (.int .i64 (IntKind.i64.wrap ((IntKind.i64.wrap ((IntKind.i64.wrap (6*(nF cr cd a b)))*(nF cr cd c e))).tdiv (hn cr cd (lpF a 1 b)))))]) (by kernel_rfl) (by kernel_rfl) (Zc ?_ (Zc ?_ (Zc ?_ (Zc ?_ (Zc ?_ (Zc ?_ (Zc ?_ (Zc ?_ (Zc ?_ (Zc ?_ (Zc ?_ (Zc ?_ (Zc ?_ (Zc ?_ POps.nil)))))))))))))) ?_
 exact fun θ R hd=>Zq (OD.loadAgg rfl ti66 rfl (i:=1) rfl (us:=[.int .i64 (cr),vcd,vL,.map (some gmp),.map (some gqp),.map (some gk)]) rfl rfl) rfl
 exact fun θ R hd=>Zq (OD.move rfl rfl) rfl
 exact fun θ R hd=>Zq (OD.move rfl rfl) rfl
 exact fun θ R ⟨h0d,h1d,h2d,_⟩=>Zq (OG.call [.agg #[.int .i64 (cr),vcd,vL,.map (some gmp),.map (some gqp),.map (some gk)],va,vb] ent41 rfl rfl rfl rfl (by exact(Spec.atIdx (i:=2) rfl (ih scd (Ent.drop 2 ecd.app) sL (Ent.drop 2 eL.app) (fun k hk=>(Ent.drop 2 ((mL k hk).app))) lL aL (Ent.drop 2 hmp.app) (Ent.drop 2 hqp.app) sa (Ent.drop 2 ea.app) sb (Ent.drop 2 eb.app) (hS) (ha) (hb) (hmab) ((Ent.drop 2 htab.app)))))) rfl
 exact fun θ R ⟨h3d,_⟩=>Zq (OD.mul rfl rfl rfl) rfl
 exact fun θ R hd=>Zq (OD.loadAgg rfl ti66 rfl (i:=1) rfl (us:=[.int .i64 (cr),vcd,vL,.map (some gmp),.map (some gqp),.map (some gk)]) rfl rfl) rfl
 exact fun θ R hd=>Zq (OD.move rfl rfl) rfl
 exact fun θ R hd=>Zq (OD.move rfl rfl) rfl
 exact fun θ R ⟨h5d,h6d,h7d,_⟩=>Zq (OG.call [.agg #[.int .i64 (cr),vcd,vL,.map (some gmp),.map (some gqp),.map (some gk)],vc,ve] ent41 rfl rfl rfl rfl (by exact(Spec.atIdx (i:=2) rfl (ih scd (Ent.drop 2 ecd.app) sL (Ent.drop 2 eL.app) (fun k hk=>(Ent.drop 2 ((mL k hk).app))) lL aL (Ent.drop 2 hmp.app) (Ent.drop 2 hqp.app) sc (Ent.drop 2 ec.app) se (Ent.drop 2 ee.app) (hS) (hc) (he) (hmce) ((Ent.drop 2 htab.app)))))) rfl
 exact fun θ R ⟨h4d,h8d,_⟩=>Zq (OD.mul rfl rfl rfl) rfl
 exact fun θ R hd=>Zq (OD.loadAgg rfl ti66 rfl (i:=1) rfl (us:=[.int .i64 (cr),vcd,vL,.map (some gmp),.map (some gqp),.map (some gk)]) rfl rfl) rfl
 exact fun θ R hd=>Zq (OD.move rfl rfl) rfl
 exact fun θ R ⟨h10d,h11d,_⟩=>Zq (OG.call [.agg #[.int .i64 (cr),vcd,vL,.map (some gmp),.map (some gqp),.map (some gk)],v2] ent101 rfl rfl rfl rfl (by exact(cN_w scd (Ent.drop 3 ecd.app) sL (Ent.drop 3 eL.app) (fun k hk=>(Ent.drop 3 ((mL k hk).app))) lL aL (Ent.drop 3 hmp.app) (Ent.drop 3 hqp.app) hs3 (Ent.ints (i:=0) rfl) (hS) (((of_rt hS ha hb).symm.trans hc4)) ((Ent.drop 3 htab.app))))) rfl
 exact fun θ R ⟨h9d,h12d,_⟩=>Zq (OD.quo rfl rfl rfl (by omega)) rfl
 intro θ hall
 obtain⟨_,_,_,_,_,_,_,_,_,_,_,_,_,_,_⟩:=hall
 refine G.at [] 0 (env':=[(10,.int .i64 (0)),(33,.int .i64 (IntKind.i64.wrap ((IntKind.i64.wrap ((IntKind.i64.wrap (6*(nF cr cd a b)))*(nF cr cd c e))).tdiv (hn cr cd (lpF a 1 b)))))]) ⟨rfl,rfl,trivial⟩ (own':=ints 3 v2 (lpF a 1 b)::box g1 66 [.int .i64 (cr),vcd,vL,.map (some gmp),.map (some gqp),.map (some gk)]::memA gk cr cd::own) rfl ?_
 show G _ _ _ [_] _ _ _ _
 refine Za rfl (Zn (Zt (GC.ret ?_)))
 exact GE.body [2] 2 (res1 rfl rfl) rfl (⟨congrArg (fun(a0:Int)=>(.int .i64 (a0):Value)) ((sh_yes hS ha hb hc he ((of_rt hS ha hb).symm.trans hc4):(IntKind.i64.wrap ((IntKind.i64.wrap ((IntKind.i64.wrap (6*(nF cr cd a b)))*(nF cr cd c e))).tdiv (hn cr cd (lpF a 1 b))):Int)=shF cr cd a b c e)),rfl⟩)
theorem cPos_w {W:World}{own:List Asn}{cr:Int}{vcd:Value}{cd:List Int}{vL:Value}{uL:List Value}{gmp:Nat}{gqp:Nat}{gk:Nat}{vx:Value}{x:List Int}{vy:Value}{y:List Int}{vz:Value}(scd:IsS vcd)(ecd:Ent own fun w=>Ints w vcd cd)(sL:IsS vL)(eL:Ent own fun w=>Sl w vL (rSt cr cd).length 1 uL)(mL:∀ k,k<(rSt cr cd).length→Ent own fun w=>Ints w (uL.getD k undef) ((rSt cr cd).getD k []))(lL:uL.length=(rSt cr cd).length)(aL:AllS uL)(hmp:Ent own (MapIs keyL valI gmp (rKvs cr cd)))(hqp:Ent own (MapIs keyL valI gqp (hfK cr cd)))(sx:IsS vx)(ex:Ent own fun w=>Ints w vx x)(sy:IsS vy)(ey:Ent own fun w=>Ints w vy y)(sz:IsS vz)(ez:Ent own fun w=>Ints w vz (lpF x 1 y)){f:Nat}(hS:(tyS cr cd).isSome=true)(hx:x∈rSt cr cd)(hy:y∈rSt cr cd)(hz:lpF x 1 y∈rSt cr cd)(hm:4*(sP x+sP y).natAbs≤f)(ih:∀ {W:World} {own:List Asn} {cr:Int} {vcd:Value} {cd:List Int} {vL:Value} {uL:List Value} {gmp:Nat} {gqp:Nat} {gk:Nat} {vx:Value} {x:List Int} {vy:Value} {y:List Int} (scd:IsS vcd) (ecd:Ent own fun w=>Ints w vcd cd) (sL:IsS vL) (eL:Ent own fun w=>Sl w vL (rSt cr cd).length 1 uL) (mL:∀ k,k<(rSt cr cd).length→Ent own fun w=>Ints w (uL.getD k undef) ((rSt cr cd).getD k [])) (lL:uL.length=(rSt cr cd).length) (aL:AllS uL) (hmp:Ent own (MapIs keyL valI gmp (rKvs cr cd))) (hqp:Ent own (MapIs keyL valI gqp (hfK cr cd))) (sx:IsS vx) (ex:Ent own fun w=>Ints w vx x) (sy:IsS vy) (ey:Ent own fun w=>Ints w vy y) (hS:(tyS cr cd).isSome=true) (hx:rtB (rSt cr cd) x=true) (hy:rtB (rSt cr cd) y=true) (hm:cnM x y<f) (htab:Ent own Pow10),Spec Tryz.prog 41 [.agg #[.int .i64 (cr),vcd,vL,.map (some gmp),.map (some gqp),.map (some gk)],vx,vy] W (memA gk cr cd::own) (fun v ow=>v = .int .i64 (nF cr cd x y)∧ow=memA gk cr cd::own))(htab:Ent own Pow10):Spec Tryz.prog 100 [.agg #[.int .i64 (cr),vcd,vL,.map (some gmp),.map (some gqp),.map (some gk)],vx,vy,vz] W (memA gk cr cd::own) (fun v ow=>v = .int .i64 (nF cr cd x y)∧ow=memA gk cr cd::own):=by
 have hl1:=(root_get hS hx).1
 have hl2:=(root_get hS hy).1
 have hlz:=(root_get hS hz).1
 have hr4:=(rtOk hS).rk
 have hcr:=(tyS_ok hS).1
 have h64x:=rt_64 hS (rt_in hx)
 have h64y:=rt_64 hS (rt_in hy)
 have h64z:=rt_64 hS (rt_in hz)
 have hfx:=fmtB_size h64x
 have hfy:=fmtB_size h64y
 have hRf:(rSt cr cd).length≤30:=by have h1:=(rtOk hS).slen;have h2:=(rtOk hS).few;omega
 refine Spec.enter Tryz.f100 _ Tryz.func100 rfl (n:=115) rfl rfl ?_
 refine Zs (Zr (G.step (OG.box (cs:=[.int .i64 (cr),vcd,vL,.map (some gmp),.map (some gqp),.map (some gk)]) rfl rfl rfl) rfl rfl rfl ?_))
 rintro _ _ ⟨g1,rfl,rfl⟩
 refine Za rfl (Zn (Zt (Zs (Zr (Zm rfl (G.step (OG.call [vx] ent98 rfl rfl rfl rfl (by exact(formatInts_w sx (Ent.drop 2 ex) (h64x) (by omega) ((Ent.drop 2 htab))))) rfl rfl rfl ?_))))))
 rintro _ _ ⟨rfl,rfl⟩
 refine Zd (OD.strAdd rfl rfl rfl (by have:(⟨#[44]⟩:ByteArray).size=1:=rfl;omega)) rfl ?_
 refine Zm rfl (G.step (OG.call [vy] ent98 rfl rfl rfl rfl (by exact(formatInts_w sy (Ent.drop 2 ey) (h64y) (by omega) ((Ent.drop 2 htab))))) rfl rfl rfl ?_)
 rintro _ _ ⟨rfl,rfl⟩
 refine Zd (OD.strAdd rfl rfl rfl (by have:(⟨#[44]⟩:ByteArray).size=1:=rfl;simp only[ByteArray.size_append];omega)) rfl ?_
 refine Za rfl (Zn (Zt (Zs (Zs ?_))))
 refine GC.at [1,0] 0 (env':=[(0,.agg #[.int .i64 (cr),vcd,vL,.map (some gmp),.map (some gqp),.map (some gk)]),(1,vx),(2,vy),(3,vz),(4,.pointer (some ⟨g1,0,none⟩)),(8,.int .i64 (0)),(25,vx),(26,.string (fmtB x)),(27,.string ((fmtB x)++(⟨#[44]⟩))),(28,vy),(29,.string (fmtB y)),(30,.string (((fmtB x)++(⟨#[44]⟩))++(fmtB y))),(9,.string (((fmtB x)++(⟨#[44]⟩))++(fmtB y)))]) ⟨rfl,rfl,rfl,rfl,rfl,rfl,rfl,rfl,rfl,rfl,rfl,rfl,rfl,trivial⟩ (own':=memA gk cr cd::box g1 66 [.int .i64 (cr),vcd,vL,.map (some gmp),.map (some gqp),.map (some gk)]::own) rfl ?_
 refine GC.memOpen fun kv2 hkv2=>?_
 refine Zr (Zd (OD.fieldAddr rfl rfl fa66_2) rfl ?_)
 refine Zd (OD.load rfl ti62 rfl (i:=1) rfl rfl) rfl ?_
 refine Zm rfl (Zd (OD.lookupOk (k:=(x,y)) rfl mt62 ke9keyP rfl rfl (Ent.map (kE:=keyP) (vE:=valI) (l:=kv2) (i:=0) rfl)) rfl ?_)
 refine Zm rfl (Zd (OD.extract rfl rfl rfl) rfl ?_)
 refine Zd (OD.extract rfl rfl rfl) rfl ?_
 refine Za rfl (Za rfl (Zn (Zt (Zs (Zr (Zm rfl (Zn (Zt ?_))))))))
 refine GC.cond rfl (fun hc3=>?_) (fun hc3=>?_)
 refine Zs (Zr (Zm rfl (Za rfl (Zn (Zt (GC.ret (GE.passR ?_)))))))
 refine GE.memClose (n:=cr) (d:=cd) (hkv2) ?_
 skip
 exact GE.body [0] 1 (res1 rfl rfl) rfl (⟨congrArg (fun(a0:Int)=>(.int .i64 (a0):Value)) ((KpOk.get hkv2 hc3:((alu (x,y) kv2).getD 0:Int)=nF cr cd x y)),rfl⟩)
 refine Zk (Zt (Zs (GC.memClose (n:=cr) (d:=cd) (hkv2) ?_)))
 refine Zr (G.step (OG.buildInts (xs:=[]) (is:=[]) rfl et22 rfl rfl rfl rfl rfl) rfl rfl rfl ?_)
 rintro v4 _ ⟨hs5,rfl⟩
 refine G.step (OG.buildInts (xs:=[]) (is:=[]) rfl et22 rfl rfl rfl rfl rfl) rfl rfl rfl ?_
 rintro v6 _ ⟨hs7,rfl⟩
 refine Za rfl (Za rfl (Zn (Zt (Zs (Zs (Zr (Zd (OD.fieldAddr rfl rfl fa66_0) rfl ?_)))))))
 refine Zd (OD.fieldAddr rfl rfl fa64_1) rfl ?_
 refine Zd (OD.load rfl ti60 rfl (i:=3) rfl rfl) rfl ?_
 refine Zd (OD.len rfl rfl et60 rfl (Ent.drop 4 eL)) rfl ?_
 refine Zm rfl (Zn (Zt (GC.block ?_)))
 refine GC.loop (ι:=Nat × Value × Value) (fun⟨k,u,v⟩=>[(1,vx),(2,vy),(3,vz),(4,.pointer (some ⟨g1,0,none⟩)),(9,.string (((fmtB x)++(⟨#[44]⟩))++(fmtB y))),(44,vL),(45,.int .i64 (((rSt cr cd).length:Nat))),(12,u),(13,v),(46,.int .i64 ((k:Int)))]) (fun⟨k,u,v⟩=>ints 3 v6 []::ints 3 v4 []::memA gk cr cd::box g1 66 [.int .i64 (cr),vcd,vL,.map (some gmp),.map (some gqp),.map (some gk)]::own) (fun⟨k,u,v⟩=>(k≤(rSt cr cd).length)∧(∀ j,j<k→(rSt cr cd).contains (lA (lpF x 1 y) (-1) ((rSt cr cd).getD j []))=false)∧(IsS u)∧(IsS v)) (fun⟨k,u,v⟩=>(rSt cr cd).length - k) (0,v4,v6) (⟨by omega,fun j hj=>absurd hj (Nat.not_lt_zero j),hs5,hs7⟩) ⟨rfl,rfl,rfl,rfl,rfl,rfl,rfl,rfl,rfl,rfl,trivial⟩ [] 0 rfl ?_
 rintro⟨k,u,v⟩ ⟨hk,h0,hu,hv⟩
 refine Zs (Zr (Zd (OD.lss rfl rfl rfl) rfl ?_))
 refine Zn (Zt (Zs ?_))
 refine GC.cond rfl (fun hc8=>?_) (fun hc8=>?_)
 replace hc8:=of_decide_eq_true hc8
 refine Zk (Zt (Zs (GC.block (Zs (Zr ?_)))))
 refine Zd (OD.indexAddr rfl et60 rfl (Ent.drop 4 eL) rfl (by omega)) rfl ?_
 refine Zd (OD.loadElem rfl ti22 rfl (Ent.drop 4 eL) (by omega) rfl) rfl ?_
 refine Za rfl (Zn (Zt (Zs (Zr (Zm rfl (Zm rfl (G.step (OG.call [vz,.int .i64 (-1),(uL.getD (k) undef)] ent68 rfl rfl rfl rfl (by exact(listPlus_w sz (Ent.drop 4 ez) (aL.get (by omega)) (Ent.drop 4 (mL (k) (by omega))) (by omega) (by have:=(root_get hS (getR_mem (show k<(rSt cr cd).length by omega))).1;omega)))) rfl rfl rfl ?_)))))))
 rintro v9 _ ⟨_,rfl,hs10,rfl⟩
 refine Za rfl (Zn (Zt (Zs (Zr (Zd (OD.fieldAddr rfl rfl fa66_0) rfl ?_)))))
 refine Zd (OD.loadAgg rfl ti64 rfl (i:=4) rfl (us:=[.int .i64 (cr),vcd,vL,.map (some gmp)]) rfl rfl) rfl ?_
 refine Zm rfl (G.step (OG.call [.agg #[.int .i64 (cr),vcd,vL,.map (some gmp)],v9] ent117 rfl rfl rfl rfl (by exact(find_w scd sL (Ent.drop 5 eL) (Ent.drop 5 hmp) hs10 (Ent.ints (i:=0) rfl) (by omega) (lpF_all64 h64z) (by rw[lpF_len];omega) ((Ent.drop 5 htab))))) rfl rfl rfl ?_)
 rintro _ _ ⟨rfl,rfl⟩
 refine Zm rfl (Zd (OD.extract rfl rfl rfl) rfl ?_)
 refine Zd (OD.extract rfl rfl rfl) rfl ?_
 refine Zd (OD.extract rfl rfl rfl) rfl ?_
 refine Za rfl (Za rfl (Za rfl (Zn (Zt (Zs (Zr (Zm rfl (Zm rfl ?_))))))))
 rcases Bool.eq_false_or_eq_true (fdB cr (rKvs cr cd) (lpF (lpF x 1 y) (-1) ((rSt cr cd).getD (k) []))) with hg11 | hg11
 have hg11e:=hg11
 refine G.at [] 0 (env':=[(1,vx),(2,vy),(3,vz),(4,.pointer (some ⟨g1,0,none⟩)),(9,.string (((fmtB x)++(⟨#[44]⟩))++(fmtB y))),(44,vL),(45,.int .i64 (((rSt cr cd).length:Nat))),(12,u),(13,v),(46,.int .i64 ((k:Int))),(47,.bool (decide ((k:Int)<((rSt cr cd).length:Nat)))),(48,elemPtr vL 1 (k)),(49,(uL.getD (k) undef)),(15,(uL.getD (k) undef)),(50,vz),(51,(uL.getD (k) undef)),(52,v9),(16,v9),(54,.pointer (some ⟨g1,0,none⟩)),(55,.agg #[.int .i64 (cr),vcd,vL,.map (some gmp)]),(56,v9),(57,.tuple #[.int .i64 (fdP cr (rKvs cr cd) (lpF (lpF x 1 y) (-1) ((rSt cr cd).getD (k) []))),.bool (fdS cr (rKvs cr cd) (lpF (lpF x 1 y) (-1) ((rSt cr cd).getD (k) []))),.bool (fdB cr (rKvs cr cd) (lpF (lpF x 1 y) (-1) ((rSt cr cd).getD (k) [])))]),(53,.tuple #[.int .i64 (fdP cr (rKvs cr cd) (lpF (lpF x 1 y) (-1) ((rSt cr cd).getD (k) []))),.bool (fdS cr (rKvs cr cd) (lpF (lpF x 1 y) (-1) ((rSt cr cd).getD (k) []))),.bool (fdB cr (rKvs cr cd) (lpF (lpF x 1 y) (-1) ((rSt cr cd).getD (k) [])))]),(58,.int .i64 (fdP cr (rKvs cr cd) (lpF (lpF x 1 y) (-1) ((rSt cr cd).getD (k) [])))),(59,.bool (fdS cr (rKvs cr cd) (lpF (lpF x 1 y) (-1) ((rSt cr cd).getD (k) [])))),(60,.bool true),(17,.int .i64 (fdP cr (rKvs cr cd) (lpF (lpF x 1 y) (-1) ((rSt cr cd).getD (k) [])))),(18,.bool (fdS cr (rKvs cr cd) (lpF (lpF x 1 y) (-1) ((rSt cr cd).getD (k) [])))),(19,.bool true),(61,.bool true),(62,.bool true)]) (⟨rfl,rfl,rfl,rfl,rfl,rfl,rfl,rfl,rfl,rfl,rfl,rfl,rfl,rfl,rfl,rfl,rfl,rfl,rfl,rfl,rfl,rfl,rfl,rfl,rfl,(congrArg (fun b=>some (Value.bool b)) hg11e),rfl,rfl,(congrArg (fun b=>some (Value.bool b)) hg11e),(congrArg (fun b=>some (Value.bool b)) hg11e),(congrArg (fun b=>some (Value.bool b)) hg11e),trivial⟩) rfl ?_
 refine G.stepGD (OD.move rfl rfl) rfl rfl rfl rfl rfl ?_
 refine Zd (OD.pickT rfl rfl rfl) rfl ?_
 refine Zn (Zt ?_)
 refine GC.cond rfl (fun hc12=>?_) (fun hc12=>?_)
 obtain⟨p,hF⟩:=fst_w hS hz (by omega) h0 ((fs_S hS hz (by omega)).symm.trans hc12)
 have hp3:=hF.hp
 have hlr:=(root_get hS hF.hr).1
 have hls:=(root_get hS hF.hs).1
 have hfm:=fs_mi hS hx hy hF hm
 have hnr:=ngF_len (rSt cr cd |>.getD (k) [])
 refine Zs (Zr (Zm rfl (Zm rfl (Za rfl (Za rfl (Zn (Zt (GC.exit (GE.miss rfl (Zp (Zp (GE.hit (Zt (Zs (Zr ?_)))))))))))))))
 refine Zd (OD.fieldAddr rfl rfl fa66_0) rfl ?_
 refine Zd (OD.loadAgg rfl ti64 rfl (i:=4) rfl (us:=[.int .i64 (cr),vcd,vL,.map (some gmp)]) rfl rfl) rfl ?_
 refine Zm rfl (Zm rfl (G.step (OG.call [.agg #[.int .i64 (cr),vcd,vL,.map (some gmp)],v9,(uL.getD (k) undef),.int .i64 (-1)] ent55 rfl rfl rfl rfl (by exact(reach_w scd sL (Ent.drop 5 eL) (Ent.drop 5 hmp) hs10 (Ent.ints (i:=0) rfl) (aL.get (by omega)) (Ent.drop 5 (mL (k) (by omega))) (by omega) (lpF_all64 h64z) (by omega) (by omega) (by omega) (rs_stop hS (rt_in hF.hs) (rt_in hF.hr) (lpF_all64 h64z) (.inr rfl)) ((Ent.drop 5 htab))))) rfl rfl rfl ?_))
 rintro _ _ ⟨rfl,rfl⟩
 refine Zd (OD.eqv (OD.add rfl rfl rfl) (congrArg (Value.int .i64) ((by rw[hF.run,wrap_in (by omega) (by omega)]):(IntKind.i64.wrap ((rch (fun(m:Nat)=>fdB cr (rKvs cr cd) (lpF (lpF (lpF x 1 y) (-1) ((rSt cr cd).getD (k) [])) ((-1)*(m:Int)) ((rSt cr cd).getD (k) []))) 40 0:Nat)+1):Int)=((p:Int)+1)))) rfl ?_
 refine Za rfl (Zn (Zt (Zs (Zr (Zm rfl (Za rfl (Zn (Zt (Zs (GC.block (Zs (Zr ?_))))))))))))
 refine Zm rfl (Zm rfl (G.step (OG.call [vx,(uL.getD (k) undef)] ent53 rfl rfl rfl rfl (by exact(slicesEqual_s sx (Ent.drop 5 ex) (aL.get (by omega)) (Ent.drop 5 (mL (k) (by omega))) (by omega)))) rfl rfl rfl ?_))
 rintro _ _ ⟨rfl,rfl⟩
 refine Za rfl (Zn (Zt ?_))
 refine GC.cond rfl (fun hc13=>?_) (fun hc13=>?_)
 refine Zk (GE.blockN (Zt (Zs ?_)))
 refine GC.at [3,0,0,0,0] 0 (env':=[(1,vx),(2,vy),(3,vz),(4,.pointer (some ⟨g1,0,none⟩)),(9,.string (((fmtB x)++(⟨#[44]⟩))++(fmtB y))),(44,vL),(45,.int .i64 (((rSt cr cd).length:Nat))),(46,.int .i64 ((k:Int))),(47,.bool (decide ((k:Int)<((rSt cr cd).length:Nat)))),(48,elemPtr vL 1 (k)),(49,(uL.getD (k) undef)),(15,(uL.getD (k) undef)),(50,vz),(51,(uL.getD (k) undef)),(52,v9),(16,v9),(54,.pointer (some ⟨g1,0,none⟩)),(55,.agg #[.int .i64 (cr),vcd,vL,.map (some gmp)]),(56,v9),(57,.tuple #[.int .i64 (fdP cr (rKvs cr cd) (lpF (lpF x 1 y) (-1) ((rSt cr cd).getD (k) []))),.bool (fdS cr (rKvs cr cd) (lpF (lpF x 1 y) (-1) ((rSt cr cd).getD (k) []))),.bool (fdB cr (rKvs cr cd) (lpF (lpF x 1 y) (-1) ((rSt cr cd).getD (k) [])))]),(53,.tuple #[.int .i64 (fdP cr (rKvs cr cd) (lpF (lpF x 1 y) (-1) ((rSt cr cd).getD (k) []))),.bool (fdS cr (rKvs cr cd) (lpF (lpF x 1 y) (-1) ((rSt cr cd).getD (k) []))),.bool (fdB cr (rKvs cr cd) (lpF (lpF x 1 y) (-1) ((rSt cr cd).getD (k) [])))]),(58,.int .i64 (fdP cr (rKvs cr cd) (lpF (lpF x 1 y) (-1) ((rSt cr cd).getD (k) [])))),(59,.bool (fdS cr (rKvs cr cd) (lpF (lpF x 1 y) (-1) ((rSt cr cd).getD (k) [])))),(60,.bool true),(17,.int .i64 (fdP cr (rKvs cr cd) (lpF (lpF x 1 y) (-1) ((rSt cr cd).getD (k) [])))),(18,.bool (fdS cr (rKvs cr cd) (lpF (lpF x 1 y) (-1) ((rSt cr cd).getD (k) [])))),(19,.bool true),(61,.bool true),(62,.bool true),(63,.bool (fdS cr (rKvs cr cd) (lpF (lpF x 1 y) (-1) ((rSt cr cd).getD (k) [])))),(64,.bool (fdS cr (rKvs cr cd) (lpF (lpF x 1 y) (-1) ((rSt cr cd).getD (k) [])))),(65,(uL.getD (k) undef)),(66,v9),(12,(uL.getD (k) undef)),(13,v9),(68,.pointer (some ⟨g1,0,none⟩)),(69,.agg #[.int .i64 (cr),vcd,vL,.map (some gmp)]),(70,v9),(71,(uL.getD (k) undef)),(72,.int .i64 ((rch (fun(m:Nat)=>fdB cr (rKvs cr cd) (lpF (lpF (lpF x 1 y) (-1) ((rSt cr cd).getD (k) [])) ((-1)*(m:Int)) ((rSt cr cd).getD (k) []))) 40 0:Nat))),(73,.int .i64 ((p:Int)+1)),(20,.int .i64 ((p:Int)+1)),(74,.int .i64 ((p:Int)+1)),(21,.int .i64 ((p:Int)+1)),(101,vx),(102,(uL.getD (k) undef)),(103,.bool (samB x ((rSt cr cd).getD (k) []))),(100,.bool (samB x ((rSt cr cd).getD (k) [])))]) ⟨rfl,rfl,rfl,rfl,rfl,rfl,rfl,rfl,rfl,rfl,rfl,rfl,rfl,rfl,rfl,rfl,rfl,rfl,rfl,rfl,rfl,rfl,rfl,rfl,rfl,rfl,rfl,rfl,rfl,rfl,rfl,rfl,rfl,rfl,rfl,rfl,rfl,rfl,rfl,rfl,rfl,rfl,rfl,rfl,rfl,rfl,rfl,rfl,trivial⟩ (own':=memA gk cr cd::ints 3 v9 (lpF (lpF x 1 y) (-1) ((rSt cr cd).getD (k) []))::ints 3 v6 []::ints 3 v4 []::box g1 66 [.int .i64 (cr),vcd,vL,.map (some gmp),.map (some gqp),.map (some gk)]::own) rfl ?_
 refine GC.memOpen fun kv14 hkv14=>?_
 refine Zr (Zd (OD.fieldAddr rfl rfl fa66_2) rfl ?_)
 refine Zd (OD.load rfl ti62 rfl (i:=4) rfl rfl) rfl ?_
 refine Zm rfl (Zm rfl (G.stepD0 (OD.mapUpdate (kE:=keyP) (vE:=valI) (l:=kv14) (k:=(x,y)) (b:=((p:Int)+1:Int)) rfl mt62.ht ke9keyP rfl rfl rfl (i:=0) rfl) rfl rfl ?_))
 refine Zn (Zt (Zs (Zr (Zm rfl (Za rfl (Zn (Zt (GC.ret ?_))))))))
 refine GE.memClose (n:=cr) (d:=cd) (KpOk.up hkv14 (fs_1 hS hx hy hF hc13)) ?_
 skip
 exact GE.body [0] 4 (res1 rfl rfl) rfl (⟨congrArg (fun(a0:Int)=>(.int .i64 (a0):Value)) ((fs_1 hS hx hy hF hc13:((p:Int)+1:Int)=nF cr cd x y)),rfl⟩)
 refine Zs (Zr (Zm rfl (Zm rfl (G.step (OG.call [vy,(uL.getD (k) undef)] ent53 rfl rfl rfl rfl (by exact(slicesEqual_s sy (Ent.drop 5 ey) (aL.get (by omega)) (Ent.drop 5 (mL (k) (by omega))) (by omega)))) rfl rfl rfl ?_))))
 rintro _ _ ⟨rfl,rfl⟩
 refine Za rfl (Zn (Zt ?_))
 refine GC.cond rfl (fun hc15=>?_) (fun hc15=>?_)
 refine Zr (Zm rfl (Zd (OD.neg rfl rfl) rfl ?_))
 refine Za rfl (Zn (GE.blockN (Zt (Zs ?_))))
 refine GC.at [3,0,0,0,0] 0 (env':=[(1,vx),(2,vy),(3,vz),(4,.pointer (some ⟨g1,0,none⟩)),(9,.string (((fmtB x)++(⟨#[44]⟩))++(fmtB y))),(44,vL),(45,.int .i64 (((rSt cr cd).length:Nat))),(46,.int .i64 ((k:Int))),(47,.bool (decide ((k:Int)<((rSt cr cd).length:Nat)))),(48,elemPtr vL 1 (k)),(49,(uL.getD (k) undef)),(15,(uL.getD (k) undef)),(50,vz),(51,(uL.getD (k) undef)),(52,v9),(16,v9),(54,.pointer (some ⟨g1,0,none⟩)),(55,.agg #[.int .i64 (cr),vcd,vL,.map (some gmp)]),(56,v9),(57,.tuple #[.int .i64 (fdP cr (rKvs cr cd) (lpF (lpF x 1 y) (-1) ((rSt cr cd).getD (k) []))),.bool (fdS cr (rKvs cr cd) (lpF (lpF x 1 y) (-1) ((rSt cr cd).getD (k) []))),.bool (fdB cr (rKvs cr cd) (lpF (lpF x 1 y) (-1) ((rSt cr cd).getD (k) [])))]),(53,.tuple #[.int .i64 (fdP cr (rKvs cr cd) (lpF (lpF x 1 y) (-1) ((rSt cr cd).getD (k) []))),.bool (fdS cr (rKvs cr cd) (lpF (lpF x 1 y) (-1) ((rSt cr cd).getD (k) []))),.bool (fdB cr (rKvs cr cd) (lpF (lpF x 1 y) (-1) ((rSt cr cd).getD (k) [])))]),(58,.int .i64 (fdP cr (rKvs cr cd) (lpF (lpF x 1 y) (-1) ((rSt cr cd).getD (k) [])))),(59,.bool (fdS cr (rKvs cr cd) (lpF (lpF x 1 y) (-1) ((rSt cr cd).getD (k) [])))),(60,.bool true),(17,.int .i64 (fdP cr (rKvs cr cd) (lpF (lpF x 1 y) (-1) ((rSt cr cd).getD (k) [])))),(18,.bool (fdS cr (rKvs cr cd) (lpF (lpF x 1 y) (-1) ((rSt cr cd).getD (k) [])))),(19,.bool true),(61,.bool true),(62,.bool true),(63,.bool (fdS cr (rKvs cr cd) (lpF (lpF x 1 y) (-1) ((rSt cr cd).getD (k) [])))),(64,.bool (fdS cr (rKvs cr cd) (lpF (lpF x 1 y) (-1) ((rSt cr cd).getD (k) [])))),(65,(uL.getD (k) undef)),(66,v9),(12,(uL.getD (k) undef)),(13,v9),(68,.pointer (some ⟨g1,0,none⟩)),(69,.agg #[.int .i64 (cr),vcd,vL,.map (some gmp)]),(70,v9),(71,(uL.getD (k) undef)),(72,.int .i64 ((rch (fun(m:Nat)=>fdB cr (rKvs cr cd) (lpF (lpF (lpF x 1 y) (-1) ((rSt cr cd).getD (k) [])) ((-1)*(m:Int)) ((rSt cr cd).getD (k) []))) 40 0:Nat))),(73,.int .i64 ((p:Int)+1)),(20,.int .i64 ((p:Int)+1)),(74,.int .i64 ((p:Int)+1)),(101,vx),(102,(uL.getD (k) undef)),(103,.bool (samB x ((rSt cr cd).getD (k) []))),(100,.bool (samB x ((rSt cr cd).getD (k) []))),(105,vy),(106,(uL.getD (k) undef)),(107,.bool (samB y ((rSt cr cd).getD (k) []))),(104,.bool (samB y ((rSt cr cd).getD (k) []))),(108,.int .i64 ((p:Int)+1)),(109,.int .i64 (IntKind.i64.wrap (0 - ((p:Int)+1)))),(21,.int .i64 (IntKind.i64.wrap (0 - ((p:Int)+1))))]) ⟨rfl,rfl,rfl,rfl,rfl,rfl,rfl,rfl,rfl,rfl,rfl,rfl,rfl,rfl,rfl,rfl,rfl,rfl,rfl,rfl,rfl,rfl,rfl,rfl,rfl,rfl,rfl,rfl,rfl,rfl,rfl,rfl,rfl,rfl,rfl,rfl,rfl,rfl,rfl,rfl,rfl,rfl,rfl,rfl,rfl,rfl,rfl,rfl,rfl,rfl,rfl,rfl,rfl,rfl,trivial⟩ (own':=memA gk cr cd::ints 3 v9 (lpF (lpF x 1 y) (-1) ((rSt cr cd).getD (k) []))::ints 3 v6 []::ints 3 v4 []::box g1 66 [.int .i64 (cr),vcd,vL,.map (some gmp),.map (some gqp),.map (some gk)]::own) rfl ?_
 refine GC.memOpen fun kv16 hkv16=>?_
 refine Zr (Zd (OD.fieldAddr rfl rfl fa66_2) rfl ?_)
 refine Zd (OD.load rfl ti62 rfl (i:=4) rfl rfl) rfl ?_
 refine Zm rfl (Zm rfl (G.stepD0 (OD.mapUpdate (kE:=keyP) (vE:=valI) (l:=kv16) (k:=(x,y)) (b:=(IntKind.i64.wrap (0 - ((p:Int)+1)):Int)) rfl mt62.ht ke9keyP rfl rfl rfl (i:=0) rfl) rfl rfl ?_))
 refine Zn (Zt (Zs (Zr (Zm rfl (Za rfl (Zn (Zt (GC.ret ?_))))))))
 refine GE.memClose (n:=cr) (d:=cd) (KpOk.up hkv16 (fs_2 hS hx hy hF hc13 hc15)) ?_
 skip
 exact GE.body [0] 4 (res1 rfl rfl) rfl (⟨congrArg (fun(a0:Int)=>(.int .i64 (a0):Value)) ((fs_2 hS hx hy hF hc13 hc15:(IntKind.i64.wrap (0 - ((p:Int)+1)):Int)=nF cr cd x y)),rfl⟩)
 refine Zs (Zr (Zm rfl (G.step (OG.call [.int .i64 (-1),(uL.getD (k) undef)] ent54 rfl rfl rfl rfl (by exact(listTimes_w (aL.get (by omega)) (Ent.drop 5 (mL (k) (by omega))) (by omega)))) rfl rfl rfl ?_)))
 rintro v17 _ ⟨_,rfl,hs18,rfl⟩
 refine Zm rfl (G.step (OG.call [.int .i64 (-1),v9] ent54 rfl rfl rfl rfl (by exact(listTimes_w hs10 (Ent.ints (i:=1) rfl) (by omega)))) rfl rfl rfl ?_)
 rintro v19 _ ⟨_,rfl,hs20,rfl⟩
 refine Za rfl (Za rfl (Zn (Zt (Zs (GC.at [] 0 (env':=[(1,vx),(2,vy),(3,vz),(4,.pointer (some ⟨g1,0,none⟩)),(9,.string (((fmtB x)++(⟨#[44]⟩))++(fmtB y))),(20,.int .i64 ((p:Int)+1)),(22,v17),(23,v19)]) ⟨rfl,rfl,rfl,rfl,rfl,rfl,rfl,rfl,trivial⟩ rfl ?_)))))
 refine GC.par (its:=[Z0 79 (.agg #[.int .i64 (cr),vcd,vL,.map (some gmp),.map (some gqp),.map (some gk)]),
     Z0 80 vy,
     Z0 81 v17,
     Z0 82 vx,
     Z0 83 v19,
     Z1 84 [(0,79),(1,80),(2,81),(3,82),(4,83)] (.int .i64 (shF cr cd y (lpF (List.replicate ((rSt cr cd).getD (k) []).length 0) (-1) ((rSt cr cd).getD (k) [])) x (lpF (List.replicate (lpF (lpF x 1 y) (-1) ((rSt cr cd).getD (k) [])).length 0) (-1) (lpF (lpF x 1 y) (-1) ((rSt cr cd).getD (k) []))))),
     Z0 85 (.agg #[.int .i64 (cr),vcd,vL,.map (some gmp),.map (some gqp),.map (some gk)]),
     Z0 86 v17,
     Z0 87 vx,
     Z0 88 vy,
     Z0 89 v19,
     Z1 90 [(6,85),(7,86),(8,87),(9,88),(10,89)] (.int .i64 (shF cr cd (lpF (List.replicate ((rSt cr cd).getD (k) []).length 0) (-1) ((rSt cr cd).getD (k) [])) x y (lpF (List.replicate (lpF (lpF x 1 y) (-1) ((rSt cr cd).getD (k) [])).length 0) (-1) (lpF (lpF x 1 y) (-1) ((rSt cr cd).getD (k) []))))),
     Z1 91 [(5,84),(11,90)] (.int .i64 (IntKind.i64.wrap ((shF cr cd y (lpF (List.replicate ((rSt cr cd).getD (k) []).length 0) (-1) ((rSt cr cd).getD (k) [])) x (lpF (List.replicate (lpF (lpF x 1 y) (-1) ((rSt cr cd).getD (k) [])).length 0) (-1) (lpF (lpF x 1 y) (-1) ((rSt cr cd).getD (k) []))))+(shF cr cd (lpF (List.replicate ((rSt cr cd).getD (k) []).length 0) (-1) ((rSt cr cd).getD (k) [])) x y (lpF (List.replicate (lpF (lpF x 1 y) (-1) ((rSt cr cd).getD (k) [])).length 0) (-1) (lpF (lpF x 1 y) (-1) ((rSt cr cd).getD (k) [])))))))]) (by kernel_rfl) (by kernel_rfl) (Zc ?_ (Zc ?_ (Zc ?_ (Zc ?_ (Zc ?_ (Zc ?_ (Zc ?_ (Zc ?_ (Zc ?_ (Zc ?_ (Zc ?_ (Zc ?_ (Zc ?_ POps.nil))))))))))))) ?_
 exact fun θ R hd=>Zq (OD.loadAgg rfl ti66 rfl (i:=6) rfl (us:=[.int .i64 (cr),vcd,vL,.map (some gmp),.map (some gqp),.map (some gk)]) rfl rfl) rfl
 exact fun θ R hd=>Zq (OD.move rfl rfl) rfl
 exact fun θ R hd=>Zq (OD.move rfl rfl) rfl
 exact fun θ R hd=>Zq (OD.move rfl rfl) rfl
 exact fun θ R hd=>Zq (OD.move rfl rfl) rfl
 exact fun θ R ⟨h0d,h1d,h2d,h3d,h4d,_⟩=>Zq (OG.call [.agg #[.int .i64 (cr),vcd,vL,.map (some gmp),.map (some gqp),.map (some gk)],vy,v17,vx,v19] ent154 rfl rfl rfl rfl (by exact(Spec.atIdx (i:=5) rfl (cShare_w scd (Ent.drop 6 ecd.app) sL (Ent.drop 6 eL.app) (fun k hk=>(Ent.drop 6 ((mL k hk).app))) lL aL (Ent.drop 6 hmp.app) (Ent.drop 6 hqp.app) sy (Ent.drop 6 ey.app) hs18 (Ent.ints (i:=1) rfl) sx (Ent.drop 6 ex.app) hs20 (Ent.ints (i:=0) rfl) (hS) (rt_in hy) (rt_ng hS (rt_in hF.hr)) (rt_in hx) (rt_ng hS (rt_in hF.hs)) (hfm.1) (hfm.2.1) (@ih) ((Ent.drop 6 htab.app)))))) rfl
 exact fun θ R hd=>Zq (OD.loadAgg rfl ti66 rfl (i:=6) rfl (us:=[.int .i64 (cr),vcd,vL,.map (some gmp),.map (some gqp),.map (some gk)]) rfl rfl) rfl
 exact fun θ R hd=>Zq (OD.move rfl rfl) rfl
 exact fun θ R hd=>Zq (OD.move rfl rfl) rfl
 exact fun θ R hd=>Zq (OD.move rfl rfl) rfl
 exact fun θ R hd=>Zq (OD.move rfl rfl) rfl
 exact fun θ R ⟨h6d,h7d,h8d,h9d,h10d,_⟩=>Zq (OG.call [.agg #[.int .i64 (cr),vcd,vL,.map (some gmp),.map (some gqp),.map (some gk)],v17,vx,vy,v19] ent154 rfl rfl rfl rfl (by exact(Spec.atIdx (i:=5) rfl (cShare_w scd (Ent.drop 6 ecd.app) sL (Ent.drop 6 eL.app) (fun k hk=>(Ent.drop 6 ((mL k hk).app))) lL aL (Ent.drop 6 hmp.app) (Ent.drop 6 hqp.app) hs18 (Ent.ints (i:=1) rfl) sx (Ent.drop 6 ex.app) sy (Ent.drop 6 ey.app) hs20 (Ent.ints (i:=0) rfl) (hS) (rt_ng hS (rt_in hF.hr)) (rt_in hx) (rt_in hy) (rt_ng hS (rt_in hF.hs)) (hfm.2.2.1) (hfm.2.2.2) (@ih) ((Ent.drop 6 htab.app)))))) rfl
 exact fun θ R ⟨h5d,h11d,_⟩=>Zq (OD.add rfl rfl rfl) rfl
 intro θ hall
 obtain⟨_,_,_,_,_,_,_,_,_,_,_,_,_,_⟩:=hall
 refine G.at [] 0 (env':=[(3,vz),(4,.pointer (some ⟨g1,0,none⟩)),(9,.string (((fmtB x)++(⟨#[44]⟩))++(fmtB y))),(20,.int .i64 ((p:Int)+1)),(91,.int .i64 (IntKind.i64.wrap ((shF cr cd y (lpF (List.replicate ((rSt cr cd).getD (k) []).length 0) (-1) ((rSt cr cd).getD (k) [])) x (lpF (List.replicate (lpF (lpF x 1 y) (-1) ((rSt cr cd).getD (k) [])).length 0) (-1) (lpF (lpF x 1 y) (-1) ((rSt cr cd).getD (k) []))))+(shF cr cd (lpF (List.replicate ((rSt cr cd).getD (k) []).length 0) (-1) ((rSt cr cd).getD (k) [])) x y (lpF (List.replicate (lpF (lpF x 1 y) (-1) ((rSt cr cd).getD (k) [])).length 0) (-1) (lpF (lpF x 1 y) (-1) ((rSt cr cd).getD (k) [])))))))]) ⟨rfl,rfl,rfl,rfl,rfl,trivial⟩ (own':=ints 3 v19 (lpF (List.replicate (lpF (lpF x 1 y) (-1) ((rSt cr cd).getD (k) [])).length 0) (-1) (lpF (lpF x 1 y) (-1) ((rSt cr cd).getD (k) [])))::ints 3 v17 (lpF (List.replicate ((rSt cr cd).getD (k) []).length 0) (-1) ((rSt cr cd).getD (k) []))::ints 3 v9 (lpF (lpF x 1 y) (-1) ((rSt cr cd).getD (k) []))::ints 3 v6 []::ints 3 v4 []::memA gk cr cd::box g1 66 [.int .i64 (cr),vcd,vL,.map (some gmp),.map (some gqp),.map (some gk)]::own) rfl ?_
 show G _ _ _ [_] _ _ _ _
 refine Za rfl (Zn (Zt (Zr (Zd (OD.loadAgg rfl ti66 rfl (i:=6) rfl (us:=[.int .i64 (cr),vcd,vL,.map (some gmp),.map (some gqp),.map (some gk)]) rfl rfl) rfl ?_))))
 refine Zm rfl (G.step (OG.call [.agg #[.int .i64 (cr),vcd,vL,.map (some gmp),.map (some gqp),.map (some gk)],vz] ent101 rfl rfl rfl rfl (by exact(cN_w scd (Ent.drop 7 ecd) sL (Ent.drop 7 eL) (fun k hk=>(Ent.drop 7 (mL k hk))) lL aL (Ent.drop 7 hmp) (Ent.drop 7 hqp) sz (Ent.drop 7 ez) (hS) (rt_in hz) ((Ent.drop 7 htab))))) rfl rfl rfl ?_)
 rintro _ _ ⟨rfl,rfl⟩
 refine Zm rfl (Zd (OD.mul rfl rfl rfl) rfl ?_)
 refine Zm rfl (Zd (OD.mul rfl rfl rfl) rfl ?_)
 refine Zd (OD.quo rfl rfl rfl (by rw[wrap_in (by omega) (by omega)];omega)) rfl ?_
 refine Za rfl (Zn (GE.blockN (Zt (Zs ?_))))
 refine GC.at [5,0,0,0,0,0,0] 0 (env':=[(3,vz),(4,.pointer (some ⟨g1,0,none⟩)),(9,.string (((fmtB x)++(⟨#[44]⟩))++(fmtB y))),(20,.int .i64 ((p:Int)+1)),(91,.int .i64 (IntKind.i64.wrap ((shF cr cd y (lpF (List.replicate ((rSt cr cd).getD (k) []).length 0) (-1) ((rSt cr cd).getD (k) [])) x (lpF (List.replicate (lpF (lpF x 1 y) (-1) ((rSt cr cd).getD (k) [])).length 0) (-1) (lpF (lpF x 1 y) (-1) ((rSt cr cd).getD (k) []))))+(shF cr cd (lpF (List.replicate ((rSt cr cd).getD (k) []).length 0) (-1) ((rSt cr cd).getD (k) [])) x y (lpF (List.replicate (lpF (lpF x 1 y) (-1) ((rSt cr cd).getD (k) [])).length 0) (-1) (lpF (lpF x 1 y) (-1) ((rSt cr cd).getD (k) []))))))),(24,.int .i64 (IntKind.i64.wrap ((shF cr cd y (lpF (List.replicate ((rSt cr cd).getD (k) []).length 0) (-1) ((rSt cr cd).getD (k) [])) x (lpF (List.replicate (lpF (lpF x 1 y) (-1) ((rSt cr cd).getD (k) [])).length 0) (-1) (lpF (lpF x 1 y) (-1) ((rSt cr cd).getD (k) []))))+(shF cr cd (lpF (List.replicate ((rSt cr cd).getD (k) []).length 0) (-1) ((rSt cr cd).getD (k) [])) x y (lpF (List.replicate (lpF (lpF x 1 y) (-1) ((rSt cr cd).getD (k) [])).length 0) (-1) (lpF (lpF x 1 y) (-1) ((rSt cr cd).getD (k) []))))))),(92,.agg #[.int .i64 (cr),vcd,vL,.map (some gmp),.map (some gqp),.map (some gk)]),(93,vz),(94,.int .i64 (hn cr cd (lpF x 1 y))),(95,.int .i64 (IntKind.i64.wrap ((shF cr cd y (lpF (List.replicate ((rSt cr cd).getD (k) []).length 0) (-1) ((rSt cr cd).getD (k) [])) x (lpF (List.replicate (lpF (lpF x 1 y) (-1) ((rSt cr cd).getD (k) [])).length 0) (-1) (lpF (lpF x 1 y) (-1) ((rSt cr cd).getD (k) []))))+(shF cr cd (lpF (List.replicate ((rSt cr cd).getD (k) []).length 0) (-1) ((rSt cr cd).getD (k) [])) x y (lpF (List.replicate (lpF (lpF x 1 y) (-1) ((rSt cr cd).getD (k) [])).length 0) (-1) (lpF (lpF x 1 y) (-1) ((rSt cr cd).getD (k) []))))))),(96,.int .i64 (IntKind.i64.wrap ((hn cr cd (lpF x 1 y))*(IntKind.i64.wrap ((shF cr cd y (lpF (List.replicate ((rSt cr cd).getD (k) []).length 0) (-1) ((rSt cr cd).getD (k) [])) x (lpF (List.replicate (lpF (lpF x 1 y) (-1) ((rSt cr cd).getD (k) [])).length 0) (-1) (lpF (lpF x 1 y) (-1) ((rSt cr cd).getD (k) []))))+(shF cr cd (lpF (List.replicate ((rSt cr cd).getD (k) []).length 0) (-1) ((rSt cr cd).getD (k) [])) x y (lpF (List.replicate (lpF (lpF x 1 y) (-1) ((rSt cr cd).getD (k) [])).length 0) (-1) (lpF (lpF x 1 y) (-1) ((rSt cr cd).getD (k) []))))))))),(97,.int .i64 ((p:Int)+1)),(98,.int .i64 (IntKind.i64.wrap (6*((p:Int)+1)))),(99,.int .i64 (IntKind.i64.wrap ((IntKind.i64.wrap ((hn cr cd (lpF x 1 y))*(IntKind.i64.wrap ((shF cr cd y (lpF (List.replicate ((rSt cr cd).getD (k) []).length 0) (-1) ((rSt cr cd).getD (k) [])) x (lpF (List.replicate (lpF (lpF x 1 y) (-1) ((rSt cr cd).getD (k) [])).length 0) (-1) (lpF (lpF x 1 y) (-1) ((rSt cr cd).getD (k) []))))+(shF cr cd (lpF (List.replicate ((rSt cr cd).getD (k) []).length 0) (-1) ((rSt cr cd).getD (k) [])) x y (lpF (List.replicate (lpF (lpF x 1 y) (-1) ((rSt cr cd).getD (k) [])).length 0) (-1) (lpF (lpF x 1 y) (-1) ((rSt cr cd).getD (k) [])))))))).tdiv (IntKind.i64.wrap (6*((p:Int)+1)))))),(21,.int .i64 (IntKind.i64.wrap ((IntKind.i64.wrap ((hn cr cd (lpF x 1 y))*(IntKind.i64.wrap ((shF cr cd y (lpF (List.replicate ((rSt cr cd).getD (k) []).length 0) (-1) ((rSt cr cd).getD (k) [])) x (lpF (List.replicate (lpF (lpF x 1 y) (-1) ((rSt cr cd).getD (k) [])).length 0) (-1) (lpF (lpF x 1 y) (-1) ((rSt cr cd).getD (k) []))))+(shF cr cd (lpF (List.replicate ((rSt cr cd).getD (k) []).length 0) (-1) ((rSt cr cd).getD (k) [])) x y (lpF (List.replicate (lpF (lpF x 1 y) (-1) ((rSt cr cd).getD (k) [])).length 0) (-1) (lpF (lpF x 1 y) (-1) ((rSt cr cd).getD (k) [])))))))).tdiv (IntKind.i64.wrap (6*((p:Int)+1))))))]) ⟨rfl,rfl,rfl,rfl,rfl,rfl,rfl,rfl,rfl,rfl,rfl,rfl,rfl,rfl,rfl,trivial⟩ (own':=memA gk cr cd::ints 3 v19 (lpF (List.replicate (lpF (lpF x 1 y) (-1) ((rSt cr cd).getD (k) [])).length 0) (-1) (lpF (lpF x 1 y) (-1) ((rSt cr cd).getD (k) [])))::ints 3 v17 (lpF (List.replicate ((rSt cr cd).getD (k) []).length 0) (-1) ((rSt cr cd).getD (k) []))::ints 3 v9 (lpF (lpF x 1 y) (-1) ((rSt cr cd).getD (k) []))::ints 3 v6 []::ints 3 v4 []::box g1 66 [.int .i64 (cr),vcd,vL,.map (some gmp),.map (some gqp),.map (some gk)]::own) rfl ?_
 refine GC.memOpen fun kv21 hkv21=>?_
 refine Zr (Zd (OD.fieldAddr rfl rfl fa66_2) rfl ?_)
 refine Zd (OD.load rfl ti62 rfl (i:=6) rfl rfl) rfl ?_
 refine Zm rfl (Zm rfl ?_)
 refine G.stepD0 (OD.mapUpdate (kE:=keyP) (vE:=valI) (l:=kv21) (k:=(x,y)) (b:=(IntKind.i64.wrap ((IntKind.i64.wrap ((hn cr cd (lpF x 1 y))*(IntKind.i64.wrap ((shF cr cd y (lpF (List.replicate ((rSt cr cd).getD (k) []).length 0) (-1) ((rSt cr cd).getD (k) [])) x (lpF (List.replicate (lpF (lpF x 1 y) (-1) ((rSt cr cd).getD (k) [])).length 0) (-1) (lpF (lpF x 1 y) (-1) ((rSt cr cd).getD (k) []))))+(shF cr cd (lpF (List.replicate ((rSt cr cd).getD (k) []).length 0) (-1) ((rSt cr cd).getD (k) [])) x y (lpF (List.replicate (lpF (lpF x 1 y) (-1) ((rSt cr cd).getD (k) [])).length 0) (-1) (lpF (lpF x 1 y) (-1) ((rSt cr cd).getD (k) [])))))))).tdiv (IntKind.i64.wrap (6*((p:Int)+1)))):Int)) rfl mt62.ht ke9keyP rfl rfl rfl (i:=0) rfl) rfl rfl ?_
 refine Zn (Zt (Zs (Zr (Zm rfl (Za rfl (Zn (Zt (GC.ret ?_))))))))
 refine GE.memClose (n:=cr) (d:=cd) (KpOk.up hkv21 (fs_3 hS hx hy hz hF hc13 hc15)) ?_
 skip
 exact GE.body [0] 6 (res1 rfl rfl) rfl (⟨congrArg (fun(a0:Int)=>(.int .i64 (a0):Value)) ((fs_3 hS hx hy hz hF hc13 hc15:(IntKind.i64.wrap ((IntKind.i64.wrap ((hn cr cd (lpF x 1 y))*(IntKind.i64.wrap ((shF cr cd y (lpF (List.replicate ((rSt cr cd).getD (k) []).length 0) (-1) ((rSt cr cd).getD (k) [])) x (lpF (List.replicate (lpF (lpF x 1 y) (-1) ((rSt cr cd).getD (k) [])).length 0) (-1) (lpF (lpF x 1 y) (-1) ((rSt cr cd).getD (k) []))))+(shF cr cd (lpF (List.replicate ((rSt cr cd).getD (k) []).length 0) (-1) ((rSt cr cd).getD (k) [])) x y (lpF (List.replicate (lpF (lpF x 1 y) (-1) ((rSt cr cd).getD (k) [])).length 0) (-1) (lpF (lpF x 1 y) (-1) ((rSt cr cd).getD (k) [])))))))).tdiv (IntKind.i64.wrap (6*((p:Int)+1)))):Int)=nF cr cd x y)),rfl⟩)
 refine Zk (GE.blockN (Zt (Zr ?_)))
 refine Zd (OD.addI rfl rfl rfl (by omega)) rfl ?_
 exact Zm rfl (Zn (GE.again (k+1,u,v) (⟨by omega,fun j hj=>(Nat.lt_succ_iff_lt_or_eq.1 hj).elim (h0 j) (fun e=>by rw[e];exact(fs_S hS hz (by omega)).symm.trans hc12),hu,hv⟩) (by first | omega | (dsimp only;omega)) ⟨rfl,rfl,rfl,rfl,rfl,rfl,rfl,rfl,rfl,rfl,trivial⟩ [1,1,1,1] 1 rfl))
 have hg11e:=hg11
 refine G.at [] 0 (env':=[(1,vx),(2,vy),(3,vz),(4,.pointer (some ⟨g1,0,none⟩)),(9,.string (((fmtB x)++(⟨#[44]⟩))++(fmtB y))),(44,vL),(45,.int .i64 (((rSt cr cd).length:Nat))),(12,u),(13,v),(46,.int .i64 ((k:Int))),(47,.bool (decide ((k:Int)<((rSt cr cd).length:Nat)))),(48,elemPtr vL 1 (k)),(49,(uL.getD (k) undef)),(15,(uL.getD (k) undef)),(50,vz),(51,(uL.getD (k) undef)),(52,v9),(16,v9),(54,.pointer (some ⟨g1,0,none⟩)),(55,.agg #[.int .i64 (cr),vcd,vL,.map (some gmp)]),(56,v9),(57,.tuple #[.int .i64 (fdP cr (rKvs cr cd) (lpF (lpF x 1 y) (-1) ((rSt cr cd).getD (k) []))),.bool (fdS cr (rKvs cr cd) (lpF (lpF x 1 y) (-1) ((rSt cr cd).getD (k) []))),.bool (fdB cr (rKvs cr cd) (lpF (lpF x 1 y) (-1) ((rSt cr cd).getD (k) [])))]),(53,.tuple #[.int .i64 (fdP cr (rKvs cr cd) (lpF (lpF x 1 y) (-1) ((rSt cr cd).getD (k) []))),.bool (fdS cr (rKvs cr cd) (lpF (lpF x 1 y) (-1) ((rSt cr cd).getD (k) []))),.bool (fdB cr (rKvs cr cd) (lpF (lpF x 1 y) (-1) ((rSt cr cd).getD (k) [])))]),(58,.int .i64 (fdP cr (rKvs cr cd) (lpF (lpF x 1 y) (-1) ((rSt cr cd).getD (k) [])))),(59,.bool (fdS cr (rKvs cr cd) (lpF (lpF x 1 y) (-1) ((rSt cr cd).getD (k) [])))),(60,.bool false),(17,.int .i64 (fdP cr (rKvs cr cd) (lpF (lpF x 1 y) (-1) ((rSt cr cd).getD (k) [])))),(18,.bool (fdS cr (rKvs cr cd) (lpF (lpF x 1 y) (-1) ((rSt cr cd).getD (k) [])))),(19,.bool false),(61,.bool false),(62,.bool false)]) (⟨rfl,rfl,rfl,rfl,rfl,rfl,rfl,rfl,rfl,rfl,rfl,rfl,rfl,rfl,rfl,rfl,rfl,rfl,rfl,rfl,rfl,rfl,rfl,rfl,rfl,(congrArg (fun b=>some (Value.bool b)) hg11e),rfl,rfl,(congrArg (fun b=>some (Value.bool b)) hg11e),(congrArg (fun b=>some (Value.bool b)) hg11e),(congrArg (fun b=>some (Value.bool b)) hg11e),trivial⟩) rfl ?_
 refine G.skipG rfl rfl rfl rfl rfl rfl ?_
 refine Zd (OD.pickF rfl rfl rfl) rfl ?_
 refine Zn (Zt (GC.condF rfl (Zk (GE.blockN (Zt (Zr ?_))))))
 refine Zd (OD.addI rfl rfl rfl (by omega)) rfl ?_
 exact Zm rfl (Zn (GE.again (k+1,u,v) (⟨by omega,fun j hj=>(Nat.lt_succ_iff_lt_or_eq.1 hj).elim (h0 j) (fun e=>by rw[e];exact fs_B hS hz (by omega) hg11e),hu,hv⟩) (by first | omega | (dsimp only;omega)) ⟨rfl,rfl,rfl,rfl,rfl,rfl,rfl,rfl,rfl,rfl,trivial⟩ [1,1,1,1] 1 rfl))
 replace hc8:=of_decide_eq_false hc8
 exact(fs_all hS hx hy hz fun j hj=>h0 j (by omega)).elim
theorem cOf_w (f:Nat):∀ {W:World} {own:List Asn} {cr:Int} {vcd:Value} {cd:List Int} {vL:Value} {uL:List Value} {gmp:Nat} {gqp:Nat} {gk:Nat} {vx:Value} {x:List Int} {vy:Value} {y:List Int} (scd:IsS vcd) (ecd:Ent own fun w=>Ints w vcd cd) (sL:IsS vL) (eL:Ent own fun w=>Sl w vL (rSt cr cd).length 1 uL) (mL:∀ k,k<(rSt cr cd).length→Ent own fun w=>Ints w (uL.getD k undef) ((rSt cr cd).getD k [])) (lL:uL.length=(rSt cr cd).length) (aL:AllS uL) (hmp:Ent own (MapIs keyL valI gmp (rKvs cr cd))) (hqp:Ent own (MapIs keyL valI gqp (hfK cr cd))) (sx:IsS vx) (ex:Ent own fun w=>Ints w vx x) (sy:IsS vy) (ey:Ent own fun w=>Ints w vy y) (hS:(tyS cr cd).isSome=true) (hx:rtB (rSt cr cd) x=true) (hy:rtB (rSt cr cd) y=true) (hm:cnM x y<f) (htab:Ent own Pow10),Spec Tryz.prog 41 [.agg #[.int .i64 (cr),vcd,vL,.map (some gmp),.map (some gqp),.map (some gk)],vx,vy] W (memA gk cr cd::own) (fun v ow=>v = .int .i64 (nF cr cd x y)∧ow=memA gk cr cd::own):=by
 induction f with
 | zero =>
   intro W own cr vcd cd vL uL gmp gqp gk vx x vy y scd ecd sL eL mL lL aL hmp hqp sx ex sy ey hS hx hy hm htab
   omega
 | succ f ih =>
  intro W own cr vcd cd vL uL gmp gqp gk vx x vy y scd ecd sL eL mL lL aL hmp hqp sx ex sy ey hS hx hy hm htab
  have hlx:=(rt_tens hS hx).1
  have hly:=(rt_tens hS hy).1
  have hr4:=(rt_tens hS hx).2.2
  have hcr:=(tyS_ok hS).1
  have hsx:=sw_of hS hx
  have hsy:=sw_of hS hy
  have hnx:=ngF_len x
  have hny:=ngF_len y
  have hbx:=hn_bd hS hx
  have hby:=hn_bd hS hy
  have hlz0:=lpF_len x 1 y
  refine Spec.enter Tryz.f41 _ Tryz.func41 rfl (n:=86) rfl rfl ?_
  refine Zs (Zr (G.step (OG.box (cs:=[.int .i64 (cr),vcd,vL,.map (some gmp),.map (some gqp),.map (some gk)]) rfl rfl rfl) rfl rfl rfl ?_))
  rintro _ _ ⟨g1,rfl,rfl⟩
  refine Za rfl (Zn (Zt (Zs (Zr (Zm rfl (Zm rfl (G.step (OG.call [vx,.int .i64 (1),vy] ent68 rfl rfl rfl rfl (by exact(listPlus_w sx (Ent.drop 2 ex) sy (Ent.drop 2 ey) (by omega) (by omega)))) rfl rfl rfl ?_)))))))
  rintro v2 _ ⟨_,rfl,hs3,rfl⟩
  refine Za rfl (Zn (Zt (Zs (Zs (Zr (Zd (OD.fieldAddr rfl rfl fa66_0) rfl ?_))))))
  refine Zd (OD.loadAgg rfl ti64 rfl (i:=1) rfl (us:=[.int .i64 (cr),vcd,vL,.map (some gmp)]) rfl rfl) rfl ?_
  refine Zm rfl (G.step (OG.call [.agg #[.int .i64 (cr),vcd,vL,.map (some gmp)],v2] ent52 rfl rfl rfl rfl (by exact(has_w scd sL (Ent.drop 3 eL) (Ent.drop 3 hmp) hs3 (Ent.ints (i:=0) rfl) (by omega) (lpF_all64 (rt_64 hS hx)) (by omega) ((Ent.drop 3 htab))))) rfl rfl rfl ?_)
  rintro _ _ ⟨rfl,rfl⟩
  refine Zd (OD.not rfl rfl) rfl ?_
  refine Zn (Zt ?_)
  refine GC.cond rfl (fun hc4=>?_) (fun hc4=>?_)
  replace hc4:=eq_false_of_not hc4
  refine Zs (Zr (Za rfl (Zn (Zt (GC.ret (GE.passR ?_))))))
  exact GE.body [2] 2 (res1 rfl rfl) rfl (⟨congrArg (fun(a0:Int)=>(.int .i64 (a0):Value)) ((of_no hS hx hy ((of_rt hS hx hy).symm.trans hc4):(0:Int)=nF cr cd x y)),rfl⟩)
  replace hc4:=eq_true_of_not hc4
  have hz:rtB (rSt cr cd) (lpF x 1 y)=true:=(of_rt hS hx hy).symm.trans hc4
  have hsz:=sw_of hS hz
  have hbz:=hn_bd hS hz
  have hnz:=ngF_len (lpF x 1 y)
  have hpz:=sP_lp hS hx hy
  refine Zk (Zt (Zs (Zs (Zr (Zm rfl (G.step (OG.call [vx] ent99 rfl rfl rfl rfl (by exact(sumOf_w sx (Ent.drop 3 ex) (by omega)))) rfl rfl rfl ?_))))))
  rintro _ _ ⟨rfl,rfl⟩
  refine Zd (OD.gtr rfl rfl rfl) rfl ?_
  refine Zm rfl (G.step (OG.call [vy] ent99 rfl rfl rfl rfl (by exact(sumOf_w sy (Ent.drop 3 ey) (by omega)))) rfl rfl rfl ?_)
  rintro _ _ ⟨rfl,rfl⟩
  refine Zd (OD.gtr rfl rfl rfl) rfl ?_
  refine Za rfl (Za rfl (Zn (Zt (GC.block (Zs (Zr ?_))))))
  refine Zm rfl (Zm rfl ?_)
  rcases Bool.eq_false_or_eq_true (decide (0<sumW x)) with hg5 | hg5
  have hg5e:=hg5
  refine G.at [] 0 (env':=[(0,.agg #[.int .i64 (cr),vcd,vL,.map (some gmp),.map (some gqp),.map (some gk)]),(1,vx),(2,vy),(3,.pointer (some ⟨g1,0,none⟩)),(6,.int .i64 (0)),(10,vx),(11,vy),(12,v2),(7,v2),(13,.pointer (some ⟨g1,0,none⟩)),(14,.agg #[.int .i64 (cr),vcd,vL,.map (some gmp)]),(15,v2),(16,.bool (fdB cr (rKvs cr cd) (lpF x 1 y))),(17,.bool (!(fdB cr (rKvs cr cd) (lpF x 1 y)))),(18,vx),(19,.int .i64 (sumW x)),(20,.bool true),(21,vy),(22,.int .i64 (sumW y)),(23,.bool (decide (0<sumW y))),(8,.bool true),(9,.bool (decide (0<sumW y))),(25,.bool true),(26,.bool true)]) (⟨rfl,rfl,rfl,rfl,rfl,rfl,rfl,rfl,rfl,rfl,rfl,rfl,rfl,rfl,rfl,rfl,(congrArg (fun b=>some (Value.bool b)) hg5e),rfl,rfl,rfl,(congrArg (fun b=>some (Value.bool b)) hg5e),rfl,(congrArg (fun b=>some (Value.bool b)) hg5e),(congrArg (fun b=>some (Value.bool b)) hg5e),trivial⟩) rfl ?_
  replace hg5:=of_decide_eq_true hg5
  refine G.stepGD (OD.move rfl rfl) rfl rfl rfl rfl rfl ?_
  refine Zd (OD.pickT rfl rfl rfl) rfl ?_
  refine Za rfl (Zn (Zt ?_))
  refine GC.cond rfl (fun hc6=>?_) (fun hc6=>?_)
  replace hc6:=of_decide_eq_true hc6
  refine Zs (Zr (Zd (OD.loadAgg rfl ti66 rfl (i:=1) rfl (us:=[.int .i64 (cr),vcd,vL,.map (some gmp),.map (some gqp),.map (some gk)]) rfl rfl) rfl ?_))
  refine Zm rfl (Zm rfl (Zm rfl ?_))
  refine G.step (OG.call [.agg #[.int .i64 (cr),vcd,vL,.map (some gmp),.map (some gqp),.map (some gk)],vx,vy,v2] ent100 rfl rfl rfl rfl (by exact(Spec.atIdx (i:=2) rfl (cPos_w scd (Ent.drop 2 ecd) sL (Ent.drop 2 eL) (fun k hk=>(Ent.drop 2 (mL k hk))) lL aL (Ent.drop 2 hmp) (Ent.drop 2 hqp) sx (Ent.drop 2 ex) sy (Ent.drop 2 ey) hs3 (Ent.ints (i:=0) rfl) (hS) ((pp_in hS hx hy hz (by omega) (by omega)).1) ((pp_in hS hx hy hz (by omega) (by omega)).2.1) ((pp_in hS hx hy hz (by omega) (by omega)).2.2) (pp_m (by omega) (by omega) hm) (@ih) ((Ent.drop 2 htab)))))) rfl rfl rfl ?_
  rintro _ _ ⟨rfl,rfl⟩
  refine Za rfl (Zn (Zt (GC.ret (GE.blockR (GE.passR ?_)))))
  exact GE.body [2] 2 (res1 rfl rfl) rfl (⟨rfl,rfl⟩)
  replace hc6:=of_decide_eq_false hc6
  refine Zs (Zr (Zm rfl (Zd (OD.not rfl rfl) rfl ?_)))
  refine Zm rfl (G.skipG rfl rfl rfl rfl rfl rfl (G.skipG rfl rfl rfl rfl rfl rfl ?_))
  refine Zd (OD.pickF rfl rfl rfl) rfl ?_
  refine Za rfl (Zn (Zt (GC.condF rfl (Zs (Zr ?_)))))
  refine Zm rfl (Zd (OD.not rfl rfl) rfl ?_)
  refine Za rfl (Zn (Zt (GC.condF rfl (Zs (Zr ?_)))))
  refine Zm rfl (G.step (OG.call [v2] ent99 rfl rfl rfl rfl (by exact(sumOf_w hs3 (Ent.ints (i:=0) rfl) (by omega)))) rfl rfl rfl ?_)
  rintro _ _ ⟨rfl,rfl⟩
  refine Zd (OD.gtr rfl rfl rfl) rfl ?_
  refine Za rfl (Zn (Zt ?_))
  refine GC.cond rfl (fun hc7=>?_) (fun hc7=>?_)
  replace hc7:=of_decide_eq_true hc7
  refine Zs (GC.at [] 0 (env':=[(1,vx),(2,vy),(3,.pointer (some ⟨g1,0,none⟩)),(6,.int .i64 (0)),(7,v2)]) ⟨rfl,rfl,rfl,rfl,rfl,trivial⟩ rfl ?_)
  refine GC.par (its:=[Z0 60 (.agg #[.int .i64 (cr),vcd,vL,.map (some gmp),.map (some gqp),.map (some gk)]),
      Z0 61 v2,
      Z1 62 [(0,60),(1,61)] (.int .i64 (hn cr cd (lpF x 1 y))),
      Z0 63 (.agg #[.int .i64 (cr),vcd,vL,.map (some gmp),.map (some gqp),.map (some gk)]),
      Z0 64 vy,
      Z0 65 v2,
      ⟨66,[(5,65)],[],[],[6],fun ds=>((ds.getD 0 []).getD 0 undef),fun ds=>IsS ((ds.getD 0 []).getD 0 undef),fun ds=>[ints 3 ((ds.getD 0 []).getD 0 undef) (lpF (List.replicate (lpF x 1 y).length 0) (-1) (lpF x 1 y))]⟩,
      ⟨67,[(3,63),(4,64),(6,66)],[6],[],[6],fun _ => .int .i64 (nF cr cd y (lpF (List.replicate (lpF x 1 y).length 0) (-1) (lpF x 1 y))),fun _=>True,fun _=>[]⟩,
      ⟨68,[(2,62),(7,67)],[6],[],[6],fun _ => .int .i64 (IntKind.i64.wrap ((hn cr cd (lpF x 1 y))*(nF cr cd y (lpF (List.replicate (lpF x 1 y).length 0) (-1) (lpF x 1 y))))),fun _=>True,fun _=>[]⟩,
      Z0 69 (.agg #[.int .i64 (cr),vcd,vL,.map (some gmp),.map (some gqp),.map (some gk)]),
      Z0 70 vx,
      Z1 71 [(9,69),(10,70)] (.int .i64 (hn cr cd x)),
      ⟨72,[(8,68),(11,71)],[6],[],[6],fun _ => .int .i64 (IntKind.i64.wrap ((IntKind.i64.wrap ((hn cr cd (lpF x 1 y))*(nF cr cd y (lpF (List.replicate (lpF x 1 y).length 0) (-1) (lpF x 1 y))))).tdiv (hn cr cd x))),fun _=>True,fun _=>[]⟩]) (by kernel_rfl) (by kernel_rfl) (Zc ?_ (Zc ?_ (Zc ?_ (Zc ?_ (Zc ?_ (Zc ?_ (Zc ?_ (Zc ?_ (Zc ?_ (Zc ?_ (Zc ?_ (Zc ?_ (Zc ?_ POps.nil))))))))))))) ?_
  exact fun θ R hd=>Zq (OD.loadAgg rfl ti66 rfl (i:=1) rfl (us:=[.int .i64 (cr),vcd,vL,.map (some gmp),.map (some gqp),.map (some gk)]) rfl rfl) rfl
  exact fun θ R hd=>Zq (OD.move rfl rfl) rfl
  exact fun θ R ⟨h0d,h1d,_⟩=>Zq (OG.call [.agg #[.int .i64 (cr),vcd,vL,.map (some gmp),.map (some gqp),.map (some gk)],v2] ent101 rfl rfl rfl rfl (by exact(cN_w scd (Ent.drop 3 ecd.app) sL (Ent.drop 3 eL.app) (fun k hk=>(Ent.drop 3 ((mL k hk).app))) lL aL (Ent.drop 3 hmp.app) (Ent.drop 3 hqp.app) hs3 (Ent.ints (i:=0) rfl) (hS) (hz) ((Ent.drop 3 htab.app))))) rfl
  exact fun θ R hd=>Zq (OD.loadAgg rfl ti66 rfl (i:=1) rfl (us:=[.int .i64 (cr),vcd,vL,.map (some gmp),.map (some gqp),.map (some gk)]) rfl rfl) rfl
  exact fun θ R hd=>Zq (OD.move rfl rfl) rfl
  exact fun θ R hd=>Zq (OD.move rfl rfl) rfl
  exact fun θ R ⟨h5d,_⟩=>Opp.plain (OG.imp (OG.call [.int .i64 (-1),v2] ent54 rfl rfl rfl rfl (by exact(listTimes_w hs3 (Ent.ints (i:=0) rfl) (by omega)))) (by rintro v8 _ ⟨_,rfl,hs9,rfl⟩;exact⟨[v8],rfl,hs9,rfl⟩)) rfl
  exact fun θ R ⟨h3d,h4d,h6d,_⟩=>Zq (OG.call [.agg #[.int .i64 (cr),vcd,vL,.map (some gmp),.map (some gqp),.map (some gk)],vy,((θ 6).getD 0 undef)] ent41 rfl rfl rfl rfl (by exact(Spec.atIdx (i:=3) rfl (ih scd (Ent.drop 3 ecd.app) sL (Ent.drop 3 eL.app) (fun k hk=>(Ent.drop 3 ((mL k hk).app))) lL aL (Ent.drop 3 hmp.app) (Ent.drop 3 hqp.app) sy (Ent.drop 3 ey.app) h6d (Ent.ints (i:=0) rfl) (hS) (hy) (rt_ng hS hz) (mi_pnP hS hx hy hz (by omega) (by omega) (by omega) hm) ((Ent.drop 3 htab.app)))))) rfl
  exact fun θ R ⟨h2d,h7d,_⟩=>Zq (OD.mul rfl rfl rfl) rfl
  exact fun θ R hd=>Zq (OD.loadAgg rfl ti66 rfl (i:=1) rfl (us:=[.int .i64 (cr),vcd,vL,.map (some gmp),.map (some gqp),.map (some gk)]) rfl rfl) rfl
  exact fun θ R hd=>Zq (OD.move rfl rfl) rfl
  exact fun θ R ⟨h9d,h10d,_⟩=>Zq (OG.call [.agg #[.int .i64 (cr),vcd,vL,.map (some gmp),.map (some gqp),.map (some gk)],vx] ent101 rfl rfl rfl rfl (by exact(cN_w scd (Ent.drop 3 ecd.app) sL (Ent.drop 3 eL.app) (fun k hk=>(Ent.drop 3 ((mL k hk).app))) lL aL (Ent.drop 3 hmp.app) (Ent.drop 3 hqp.app) sx (Ent.drop 3 ex.app) (hS) (hx) ((Ent.drop 3 htab.app))))) rfl
  exact fun θ R ⟨h8d,h11d,_⟩=>Zq (OD.quo rfl rfl rfl (by first | omega | (simp only[List.length_set,List.length_replicate];omega))) rfl
  intro θ hall
  obtain⟨_,_,_,_,_,_,h6a,_,_,_,_,_,_,_⟩:=hall
  refine G.at [] 0 (env':=[(6,.int .i64 (0)),(72,.int .i64 (IntKind.i64.wrap ((IntKind.i64.wrap ((hn cr cd (lpF x 1 y))*(nF cr cd y (lpF (List.replicate (lpF x 1 y).length 0) (-1) (lpF x 1 y))))).tdiv (hn cr cd x))))]) ⟨rfl,rfl,trivial⟩ (own':=ints 3 ((θ 6).getD 0 undef) (lpF (List.replicate (lpF x 1 y).length 0) (-1) (lpF x 1 y))::ints 3 v2 (lpF x 1 y)::box g1 66 [.int .i64 (cr),vcd,vL,.map (some gmp),.map (some gqp),.map (some gk)]::memA gk cr cd::own) rfl ?_
  have hs10:IsS ((θ 6).getD 0 undef):=h6a
  clear h6a
  generalize ((θ 6).getD 0 undef)=v11 at *
  show G _ _ _ [_] _ _ _ _
  refine Za rfl (Zn (Zt (GC.ret (GE.blockR (GE.passR ?_)))))
  exact GE.body [3] 3 (res1 rfl rfl) rfl (⟨congrArg (fun(a0:Int)=>(.int .i64 (a0):Value)) ((of_pnP hS hx hy hz (by omega) (by omega) (by omega):(IntKind.i64.wrap ((IntKind.i64.wrap ((hn cr cd (lpF x 1 y))*(nF cr cd y (lpF (List.replicate (lpF x 1 y).length 0) (-1) (lpF x 1 y))))).tdiv (hn cr cd x)):Int)=nF cr cd x y)),rfl⟩)
  replace hc7:=of_decide_eq_false hc7
  refine Zk (GE.blockN (Zt (Zs ?_)))
  refine GC.at [] 0 (env':=[(1,vx),(2,vy),(3,.pointer (some ⟨g1,0,none⟩)),(6,.int .i64 (0)),(7,v2)]) ⟨rfl,rfl,rfl,rfl,rfl,trivial⟩ rfl ?_
  refine GC.par (its:=[Z0 73 (.agg #[.int .i64 (cr),vcd,vL,.map (some gmp),.map (some gqp),.map (some gk)]),
      Z0 74 v2,
      Z1 75 [(0,73),(1,74)] (.int .i64 (hn cr cd (lpF x 1 y))),
      Z0 76 (.agg #[.int .i64 (cr),vcd,vL,.map (some gmp),.map (some gqp),.map (some gk)]),
      Z0 77 v2,
      ⟨78,[(4,77)],[],[],[5],fun ds=>((ds.getD 0 []).getD 0 undef),fun ds=>IsS ((ds.getD 0 []).getD 0 undef),fun ds=>[ints 3 ((ds.getD 0 []).getD 0 undef) (lpF (List.replicate (lpF x 1 y).length 0) (-1) (lpF x 1 y))]⟩,
      Z0 79 vx,
      ⟨80,[(3,76),(5,78),(6,79)],[5],[],[5],fun _ => .int .i64 (nF cr cd (lpF (List.replicate (lpF x 1 y).length 0) (-1) (lpF x 1 y)) x),fun _=>True,fun _=>[]⟩,
      ⟨81,[(2,75),(7,80)],[5],[],[5],fun _ => .int .i64 (IntKind.i64.wrap ((hn cr cd (lpF x 1 y))*(nF cr cd (lpF (List.replicate (lpF x 1 y).length 0) (-1) (lpF x 1 y)) x))),fun _=>True,fun _=>[]⟩,
      Z0 82 (.agg #[.int .i64 (cr),vcd,vL,.map (some gmp),.map (some gqp),.map (some gk)]),
      Z0 83 vy,
      Z1 84 [(9,82),(10,83)] (.int .i64 (hn cr cd y)),
      ⟨85,[(8,81),(11,84)],[5],[],[5],fun _ => .int .i64 (IntKind.i64.wrap ((IntKind.i64.wrap ((hn cr cd (lpF x 1 y))*(nF cr cd (lpF (List.replicate (lpF x 1 y).length 0) (-1) (lpF x 1 y)) x))).tdiv (hn cr cd y))),fun _=>True,fun _=>[]⟩]) (by kernel_rfl) (by kernel_rfl) (Zc ?_ (Zc ?_ (Zc ?_ (Zc ?_ (Zc ?_ (Zc ?_ (Zc ?_ (Zc ?_ (Zc ?_ (Zc ?_ (Zc ?_ (Zc ?_ (Zc ?_ POps.nil))))))))))))) ?_
  exact fun θ R hd=>Zq (OD.loadAgg rfl ti66 rfl (i:=1) rfl (us:=[.int .i64 (cr),vcd,vL,.map (some gmp),.map (some gqp),.map (some gk)]) rfl rfl) rfl
  exact fun θ R hd=>Zq (OD.move rfl rfl) rfl
  exact fun θ R ⟨h0d,h1d,_⟩=>Zq (OG.call [.agg #[.int .i64 (cr),vcd,vL,.map (some gmp),.map (some gqp),.map (some gk)],v2] ent101 rfl rfl rfl rfl (by exact(cN_w scd (Ent.drop 3 ecd.app) sL (Ent.drop 3 eL.app) (fun k hk=>(Ent.drop 3 ((mL k hk).app))) lL aL (Ent.drop 3 hmp.app) (Ent.drop 3 hqp.app) hs3 (Ent.ints (i:=0) rfl) (hS) (hz) ((Ent.drop 3 htab.app))))) rfl
  exact fun θ R hd=>Zq (OD.loadAgg rfl ti66 rfl (i:=1) rfl (us:=[.int .i64 (cr),vcd,vL,.map (some gmp),.map (some gqp),.map (some gk)]) rfl rfl) rfl
  exact fun θ R hd=>Zq (OD.move rfl rfl) rfl
  exact fun θ R ⟨h4d,_⟩=>Opp.plain (OG.imp (OG.call [.int .i64 (-1),v2] ent54 rfl rfl rfl rfl (by exact(listTimes_w hs3 (Ent.ints (i:=0) rfl) (by omega)))) (by rintro v12 _ ⟨_,rfl,hs13,rfl⟩;exact⟨[v12],rfl,hs13,rfl⟩)) rfl
  exact fun θ R hd=>Zq (OD.move rfl rfl) rfl
  exact fun θ R ⟨h3d,h5d,h6d,_⟩=>Zq (OG.call [.agg #[.int .i64 (cr),vcd,vL,.map (some gmp),.map (some gqp),.map (some gk)],((θ 5).getD 0 undef),vx] ent41 rfl rfl rfl rfl (by exact(Spec.atIdx (i:=3) rfl (ih scd (Ent.drop 3 ecd.app) sL (Ent.drop 3 eL.app) (fun k hk=>(Ent.drop 3 ((mL k hk).app))) lL aL (Ent.drop 3 hmp.app) (Ent.drop 3 hqp.app) h5d (Ent.ints (i:=0) rfl) sx (Ent.drop 3 ex.app) (hS) (rt_ng hS hz) (hx) (mi_pnN hS hx hy hz (by omega) (by omega) (by omega) hm) ((Ent.drop 3 htab.app)))))) rfl
  exact fun θ R ⟨h2d,h7d,_⟩=>Zq (OD.mul rfl rfl rfl) rfl
  exact fun θ R hd=>Zq (OD.loadAgg rfl ti66 rfl (i:=1) rfl (us:=[.int .i64 (cr),vcd,vL,.map (some gmp),.map (some gqp),.map (some gk)]) rfl rfl) rfl
  exact fun θ R hd=>Zq (OD.move rfl rfl) rfl
  exact fun θ R ⟨h9d,h10d,_⟩=>Zq (OG.call [.agg #[.int .i64 (cr),vcd,vL,.map (some gmp),.map (some gqp),.map (some gk)],vy] ent101 rfl rfl rfl rfl (by exact(cN_w scd (Ent.drop 3 ecd.app) sL (Ent.drop 3 eL.app) (fun k hk=>(Ent.drop 3 ((mL k hk).app))) lL aL (Ent.drop 3 hmp.app) (Ent.drop 3 hqp.app) sy (Ent.drop 3 ey.app) (hS) (hy) ((Ent.drop 3 htab.app))))) rfl
  exact fun θ R ⟨h8d,h11d,_⟩=>Zq (OD.quo rfl rfl rfl (by first | omega | (simp only[List.length_set,List.length_replicate];omega))) rfl
  intro θ hall
  obtain⟨_,_,_,_,_,h5a,_,_,_,_,_,_,_,_⟩:=hall
  refine G.at [] 0 (env':=[(6,.int .i64 (0)),(85,.int .i64 (IntKind.i64.wrap ((IntKind.i64.wrap ((hn cr cd (lpF x 1 y))*(nF cr cd (lpF (List.replicate (lpF x 1 y).length 0) (-1) (lpF x 1 y)) x))).tdiv (hn cr cd y))))]) ⟨rfl,rfl,trivial⟩ (own':=ints 3 ((θ 5).getD 0 undef) (lpF (List.replicate (lpF x 1 y).length 0) (-1) (lpF x 1 y))::ints 3 v2 (lpF x 1 y)::box g1 66 [.int .i64 (cr),vcd,vL,.map (some gmp),.map (some gqp),.map (some gk)]::memA gk cr cd::own) rfl ?_
  have hs14:IsS ((θ 5).getD 0 undef):=h5a
  clear h5a
  generalize ((θ 5).getD 0 undef)=v15 at *
  show G _ _ _ [_] _ _ _ _
  refine Za rfl (Zn (Zt (GC.ret ?_)))
  exact GE.body [3] 3 (res1 rfl rfl) rfl (⟨congrArg (fun(a0:Int)=>(.int .i64 (a0):Value)) ((of_pnN hS hx hy hz (by omega) (by omega) (by omega):(IntKind.i64.wrap ((IntKind.i64.wrap ((hn cr cd (lpF x 1 y))*(nF cr cd (lpF (List.replicate (lpF x 1 y).length 0) (-1) (lpF x 1 y)) x))).tdiv (hn cr cd y)):Int)=nF cr cd x y)),rfl⟩)
  have hg5e:=hg5
  refine G.at [] 0 (env':=[(0,.agg #[.int .i64 (cr),vcd,vL,.map (some gmp),.map (some gqp),.map (some gk)]),(1,vx),(2,vy),(3,.pointer (some ⟨g1,0,none⟩)),(6,.int .i64 (0)),(10,vx),(11,vy),(12,v2),(7,v2),(13,.pointer (some ⟨g1,0,none⟩)),(14,.agg #[.int .i64 (cr),vcd,vL,.map (some gmp)]),(15,v2),(16,.bool (fdB cr (rKvs cr cd) (lpF x 1 y))),(17,.bool (!(fdB cr (rKvs cr cd) (lpF x 1 y)))),(18,vx),(19,.int .i64 (sumW x)),(20,.bool false),(21,vy),(22,.int .i64 (sumW y)),(23,.bool (decide (0<sumW y))),(8,.bool false),(9,.bool (decide (0<sumW y))),(25,.bool false),(26,.bool false)]) (⟨rfl,rfl,rfl,rfl,rfl,rfl,rfl,rfl,rfl,rfl,rfl,rfl,rfl,rfl,rfl,rfl,(congrArg (fun b=>some (Value.bool b)) hg5e),rfl,rfl,rfl,(congrArg (fun b=>some (Value.bool b)) hg5e),rfl,(congrArg (fun b=>some (Value.bool b)) hg5e),(congrArg (fun b=>some (Value.bool b)) hg5e),trivial⟩) rfl ?_
  replace hg5:=of_decide_eq_false hg5
  refine G.skipG rfl rfl rfl rfl rfl rfl ?_
  refine Zd (OD.pickF rfl rfl rfl) rfl ?_
  refine Za rfl (Zn (Zt (GC.condF rfl (Zs (Zr ?_)))))
  refine Zm rfl (Zd (OD.not rfl rfl) rfl ?_)
  refine Zm rfl (G.stepGD (OD.move rfl rfl) rfl rfl rfl rfl rfl ?_)
  refine G.stepGD (OD.not rfl rfl) rfl rfl rfl rfl rfl ?_
  refine Zd (OD.pickT rfl rfl rfl) rfl ?_
  refine Za rfl (Zn (Zt ?_))
  refine GC.cond rfl (fun hc16=>?_) (fun hc16=>?_)
  replace hc16:=eq_false_of_not hc16
  have hc16p:=of_decide_eq_false hc16
  refine Zs (GC.at [] 0 (env':=[(1,vx),(2,vy),(3,.pointer (some ⟨g1,0,none⟩)),(6,.int .i64 (0))]) ⟨rfl,rfl,rfl,rfl,trivial⟩ rfl ?_)
  refine GC.par (its:=[Z0 41 (.agg #[.int .i64 (cr),vcd,vL,.map (some gmp),.map (some gqp),.map (some gk)]),
      Z0 42 vx,
      ⟨43,[(1,42)],[],[],[2],fun ds=>((ds.getD 0 []).getD 0 undef),fun ds=>IsS ((ds.getD 0 []).getD 0 undef),fun ds=>[ints 3 ((ds.getD 0 []).getD 0 undef) (lpF (List.replicate x.length 0) (-1) x)]⟩,
      Z0 44 vy,
      ⟨45,[(3,44)],[],[],[4],fun ds=>((ds.getD 0 []).getD 0 undef),fun ds=>IsS ((ds.getD 0 []).getD 0 undef),fun ds=>[ints 3 ((ds.getD 0 []).getD 0 undef) (lpF (List.replicate y.length 0) (-1) y)]⟩,
      ⟨46,[(0,41),(2,43),(4,45)],[2,4],[],[2,4],fun _ => .int .i64 (nF cr cd (lpF (List.replicate x.length 0) (-1) x) (lpF (List.replicate y.length 0) (-1) y)),fun _=>True,fun _=>[]⟩,
      ⟨47,[(5,46)],[2,4],[],[2,4],fun _ => .int .i64 (IntKind.i64.wrap (0 - nF cr cd (lpF (List.replicate x.length 0) (-1) x) (lpF (List.replicate y.length 0) (-1) y))),fun _=>True,fun _=>[]⟩]) (by kernel_rfl) (by kernel_rfl) (Zc ?_ (Zc ?_ (Zc ?_ (Zc ?_ (Zc ?_ (Zc ?_ (Zc ?_ POps.nil))))))) ?_
  exact fun θ R hd=>Zq (OD.loadAgg rfl ti66 rfl (i:=1) rfl (us:=[.int .i64 (cr),vcd,vL,.map (some gmp),.map (some gqp),.map (some gk)]) rfl rfl) rfl
  exact fun θ R hd=>Zq (OD.move rfl rfl) rfl
  exact fun θ R ⟨h1d,_⟩=>Opp.plain (OG.imp (OG.call [.int .i64 (-1),vx] ent54 rfl rfl rfl rfl (by exact(listTimes_w sx (Ent.drop 3 ex.app) (by omega)))) (by rintro v17 _ ⟨_,rfl,hs18,rfl⟩;exact⟨[v17],rfl,hs18,rfl⟩)) rfl
  exact fun θ R hd=>Zq (OD.move rfl rfl) rfl
  exact fun θ R ⟨h3d,_⟩=>Opp.plain (OG.imp (OG.call [.int .i64 (-1),vy] ent54 rfl rfl rfl rfl (by exact(listTimes_w sy (Ent.drop 3 ey.app) (by omega)))) (by rintro v19 _ ⟨_,rfl,hs20,rfl⟩;exact⟨[v19],rfl,hs20,rfl⟩)) rfl
  exact fun θ R ⟨h0d,h2d,h4d,_⟩=>Zq (OG.call [.agg #[.int .i64 (cr),vcd,vL,.map (some gmp),.map (some gqp),.map (some gk)],((θ 2).getD 0 undef),((θ 4).getD 0 undef)] ent41 rfl rfl rfl rfl (by exact(Spec.atIdx (i:=4) rfl (ih scd (Ent.drop 4 ecd.app) sL (Ent.drop 4 eL.app) (fun k hk=>(Ent.drop 4 ((mL k hk).app))) lL aL (Ent.drop 4 hmp.app) (Ent.drop 4 hqp.app) h2d (Ent.ints (i:=0) rfl) h4d (Ent.ints (i:=1) rfl) (hS) (rt_ng hS hx) (rt_ng hS hy) (mi_nn hS hx hy (by omega) (by omega) hm) ((Ent.drop 4 htab.app)))))) rfl
  exact fun θ R ⟨h5d,_⟩=>Zq (OD.neg rfl rfl) rfl
  intro θ hall
  obtain⟨_,_,h2a,_,h4a,_,_,_⟩:=hall
  refine G.at [] 0 (env':=[(6,.int .i64 (0)),(47,.int .i64 (IntKind.i64.wrap (0 - nF cr cd (lpF (List.replicate x.length 0) (-1) x) (lpF (List.replicate y.length 0) (-1) y))))]) ⟨rfl,rfl,trivial⟩ (own':=ints 3 ((θ 2).getD 0 undef) (lpF (List.replicate x.length 0) (-1) x)::ints 3 ((θ 4).getD 0 undef) (lpF (List.replicate y.length 0) (-1) y)::ints 3 v2 (lpF x 1 y)::box g1 66 [.int .i64 (cr),vcd,vL,.map (some gmp),.map (some gqp),.map (some gk)]::memA gk cr cd::own) rfl ?_
  have hs21:IsS ((θ 2).getD 0 undef):=h2a
  clear h2a
  generalize ((θ 2).getD 0 undef)=v22 at *
  have hs23:IsS ((θ 4).getD 0 undef):=h4a
  clear h4a
  generalize ((θ 4).getD 0 undef)=v24 at *
  show G _ _ _ [_] _ _ _ _
  refine Za rfl (Zn (Zt (GC.ret (GE.blockR (GE.passR ?_)))))
  exact GE.body [4] 4 (res1 rfl rfl) rfl (⟨congrArg (fun(a0:Int)=>(.int .i64 (a0):Value)) ((of_nn hS hx hy (by omega) (by omega):(IntKind.i64.wrap (0 - nF cr cd (lpF (List.replicate x.length 0) (-1) x) (lpF (List.replicate y.length 0) (-1) y)):Int)=nF cr cd x y)),rfl⟩)
  replace hc16:=eq_true_of_not hc16
  have hc16p:=of_decide_eq_true hc16
  refine Zs (Zr (Zm rfl (Zd (OD.not rfl rfl) rfl ?_)))
  refine Za rfl (Zn (Zt (GC.condT rfl (Zs (Zr ?_)))))
  refine Zd (OD.loadAgg rfl ti66 rfl (i:=1) rfl (us:=[.int .i64 (cr),vcd,vL,.map (some gmp),.map (some gqp),.map (some gk)]) rfl rfl) rfl ?_
  refine Zm rfl (Zm rfl (G.step (OG.call [.agg #[.int .i64 (cr),vcd,vL,.map (some gmp),.map (some gqp),.map (some gk)],vy,vx] ent41 rfl rfl rfl rfl (by exact(Spec.atIdx (i:=2) rfl (ih scd (Ent.drop 2 ecd) sL (Ent.drop 2 eL) (fun k hk=>(Ent.drop 2 (mL k hk))) lL aL (Ent.drop 2 hmp) (Ent.drop 2 hqp) sy (Ent.drop 2 ey) sx (Ent.drop 2 ex) (hS) (hy) (hx) (m_np hS hx (by omega) (by omega) hm) ((Ent.drop 2 htab)))))) rfl rfl rfl ?_))
  rintro _ _ ⟨rfl,rfl⟩
  refine Zd (OD.neg rfl rfl) rfl ?_
  refine Za rfl (Zn (Zt (GC.ret (GE.blockR (GE.passR ?_)))))
  exact GE.body [2] 2 (res1 rfl rfl) rfl (⟨congrArg (fun(a0:Int)=>(.int .i64 (a0):Value)) ((of_np hS hx hy (by omega) (by omega):(IntKind.i64.wrap (0 - nF cr cd y x):Int)=nF cr cd x y)),rfl⟩)
theorem newConstants_w {W:World}{own:List Asn}{cr:Int}{vcd:Value}{cd:List Int}(scd:IsS vcd)(ecd:Ent own fun w=>Ints w vcd cd)(hS:(tyS cr cd).isSome=true)(htab:Ent own Pow10):Spec Tryz.prog 40 [.agg #[.int .i64 (cr),vcd]] W own (fun v ow=>∃ (r2:Value) (u2:List Value) (g3:Nat) (g4:Nat) (g5:Nat),v = .agg #[.int .i64 (cr),vcd,r2,.map (some g3),.map (some g4),.map (some g5)]∧IsS r2∧AllS u2∧u2.length=(rSt cr cd).length∧ow=lst 22 r2 u2::many (ints 3) u2 (rSt cr cd)::mapA keyL valI g3 (rKvs cr cd)::mapA keyL valI g4 (hfK cr cd)::mapA keyP valI g5 []::own):=by
 have hcr:=(tyS_ok hS).1
 have hcd:=(tyS_ok hS).2
 have hRf:(rSt cr cd).length≤30:=by have h1:=(rtOk hS).slen;have h2:=(rtOk hS).few;omega
 refine Spec.enter Tryz.f40 _ Tryz.func40 rfl (n:=30) rfl rfl ?_
 refine Zs (Zr (G.step (OG.box (cs:=[.int .i64 (cr),vcd]) rfl rfl rfl) rfl rfl rfl ?_))
 rintro _ _ ⟨g1,rfl,rfl⟩
 refine G.step (OG.alloc rfl ti66 (zs:=[.int .i64 (0),.slice none 0 0,.slice none 0 0,.map none,.map none,.map none]) rfl) rfl rfl rfl ?_
 rintro _ _ ⟨g2,rfl,rfl⟩
 refine Zn (Zt (Zs (Zr (Zd (OD.loadAgg rfl ti27 rfl (i:=1) rfl (us:=[.int .i64 (cr),vcd]) rfl rfl) rfl ?_))))
 refine G.step (OG.call [.agg #[.int .i64 (cr),vcd]] ent51 rfl rfl rfl rfl (by exact(newRoots_w scd (Ent.drop 2 ecd) (hcr) (hcd) (hS) ((Ent.drop 2 htab))))) rfl rfl rfl ?_
 rintro _ _ ⟨v3,u4,g8,rfl,hs5,hs6,hs7,rfl⟩
 refine G.step (OG.makeMap keyL valI rfl rfl) rfl rfl rfl ?_
 rintro _ _ ⟨g9,rfl,rfl⟩
 refine G.step (OG.makeMap keyP valI rfl rfl) rfl rfl rfl ?_
 rintro _ _ ⟨g10,rfl,rfl⟩
 refine Zd (OD.build (idx:=[0,1,2]) (xs:=[.tmp 7,.tmp 8,.tmp 9]) (vs:=[.agg #[.int .i64 (cr),vcd,v3,.map (some g8)],.map (some g9),.map (some g10)]) (cs:=[[.int .i64 (cr),vcd,v3,.map (some g8)],[.map (some g9)],[.map (some g10)]]) (zs:=[.int .i64 (0),.slice none 0 0,.slice none 0 0,.map none,.map none,.map none]) (r:=[.int .i64 (cr),vcd,v3,.map (some g8),.map (some g9),.map (some g10)]) rfl ti66 rfl rfl rfl ⟨rfl,⟨rfl,⟨rfl,trivial⟩⟩⟩ rfl) rfl ?_
 refine G.step (OG.alloc rfl ti66 (zs:=[.int .i64 (0),.slice none 0 0,.slice none 0 0,.map none,.map none,.map none]) rfl) rfl rfl rfl ?_
 rintro _ _ ⟨g11,rfl,rfl⟩
 refine G.stepD0 (OD.store rfl ti66 rfl rfl (us:=[.int .i64 (cr),vcd,v3,.map (some g8),.map (some g9),.map (some g10)]) rfl rfl (allC rfl (allC (IsS.one scd) (allC (IsS.one hs5) (allC rfl (allC rfl (allC rfl rfl)))))) (i:=0) rfl rfl) rfl rfl ?_
 refine Zn (Zt (Zs (Zs (Zr (Zd (OD.fieldAddr rfl rfl fa66_0) rfl ?_)))))
 refine Zd (OD.fieldAddr rfl rfl fa64_1) rfl ?_
 refine Zd (OD.load rfl ti60 rfl (i:=0) rfl rfl) rfl ?_
 refine Zd (OD.len rfl rfl et60 rfl (Ent.lst (i:=3) rfl)) rfl ?_
 refine Zm rfl (Zn (Zt (GC.block ?_)))
 refine GC.loop (ι:=Nat) (fun k=>[(1,.pointer (some ⟨g1,0,none⟩)),(2,.pointer (some ⟨g2,0,none⟩)),(3,.pointer (some ⟨g11,0,none⟩)),(13,v3),(14,.int .i64 ((u4.length:Nat))),(15,.int .i64 ((k:Int)))]) (fun k=>box g11 66 [.int .i64 (cr),vcd,v3,.map (some g8),.map (some g9),.map (some g10)]::mapA keyP valI g10 []::mapA keyL valI g9 (hfP cr cd k)::lst 22 v3 u4::many (ints 3) u4 (rSt cr cd)::mapA keyL valI g8 (rKvs cr cd)::box g2 66 [.int .i64 (0),.slice none 0 0,.slice none 0 0,.map none,.map none,.map none]::box g1 27 [.int .i64 (cr),vcd]::own) (fun k=>(k≤(rSt cr cd).length)) (fun k=>(rSt cr cd).length - k) 0 (by omega) ⟨rfl,rfl,rfl,rfl,rfl,rfl,trivial⟩ [] 0 rfl ?_
 rintro k hk
 refine Zs (Zr (Zd (OD.lss rfl rfl rfl) rfl ?_))
 refine Zn (Zt (Zs ?_))
 refine GC.cond rfl (fun hc12=>?_) (fun hc12=>?_)
 replace hc12:=of_decide_eq_true hc12
 have hrk:=rt_in (getR_mem (show k<(rSt cr cd).length by omega))
 obtain⟨hrl,hr10,_⟩:=rt_tens hS hrk
 have hr64:=rt_64 hS hrk
 have hrw:wtOk cr ((rSt cr cd).getD (k) [])=true:=wtOk_of (by omega) fun j _=>by have:=hr10 j;omega
 have hin:=inF_bd hS hrw hrw
 refine Zk (Zt (Zs (GC.block (Zs (Zr ?_)))))
 refine Zd (OD.indexAddr rfl et60 rfl (Ent.lst (i:=3) rfl) rfl (by omega)) rfl ?_
 refine Zd (OD.loadElem rfl ti22 rfl (Ent.lst (i:=3) rfl) (by omega) rfl) rfl ?_
 refine Za rfl (Zn (Zt (GC.at [] 0 (env':=[(1,.pointer (some ⟨g1,0,none⟩)),(2,.pointer (some ⟨g2,0,none⟩)),(3,.pointer (some ⟨g11,0,none⟩)),(13,v3),(14,.int .i64 ((u4.length:Nat))),(15,.int .i64 ((k:Int))),(5,(u4.getD (k) undef))]) ⟨rfl,rfl,rfl,rfl,rfl,rfl,rfl,trivial⟩ rfl ?_)))
 refine GC.par (its:=[Z0 19 (.pointer (some ⟨g11,4,none⟩)),
     Z1 20 [(0,19)] (.map (some g9)),
     Z0 21 ((u4.getD (k) undef)),
     Z1 22 [(2,21)] (.string (fmtB ((rSt cr cd).getD (k) []))),
     Z0 23 (.agg #[.int .i64 (cr),vcd]),
     Z0 24 ((u4.getD (k) undef)),
     Z0 25 ((u4.getD (k) undef)),
     Z1 26 [(4,23),(5,24),(6,25)] (.int .i64 (inF cr cd ((rSt cr cd).getD (k) []) ((rSt cr cd).getD (k) []))),
     Z1 27 [(7,26)] (.int .i64 (IntKind.i64.wrap ((inF cr cd ((rSt cr cd).getD (k) []) ((rSt cr cd).getD (k) [])).tdiv 2)))]) (by kernel_rfl) (by kernel_rfl) (Zc ?_ (Zc ?_ (Zc ?_ (Zc ?_ (Zc ?_ (Zc ?_ (Zc ?_ (Zc ?_ (Zc ?_ POps.nil))))))))) ?_
 exact fun θ R hd=>Zq (OD.fieldAddr rfl rfl fa66_1) rfl
 exact fun θ R ⟨h0d,_⟩=>Zq (OD.load rfl ti62 rfl (i:=0) rfl rfl) rfl
 exact fun θ R hd=>Zq (OD.move rfl rfl) rfl
 exact fun θ R ⟨h2d,_⟩=>Zq (OG.call [(u4.getD (k) undef)] ent98 rfl rfl rfl rfl (by exact(formatInts_w (hs6.get (by omega)) (Ent.manyInts (i:=4) rfl ⟨by first | omega | (simp;omega),by first | omega | (simp;omega)⟩) (hr64) (by omega) ((Ent.drop 8 htab.app))))) rfl
 exact fun θ R hd=>Zq (OD.loadAgg rfl ti27 rfl (i:=7) rfl (us:=[.int .i64 (cr),vcd]) rfl rfl) rfl
 exact fun θ R hd=>Zq (OD.move rfl rfl) rfl
 exact fun θ R hd=>Zq (OD.move rfl rfl) rfl
 exact fun θ R ⟨h4d,h5d,h6d,_⟩=>Zq (OG.call [.agg #[.int .i64 (cr),vcd],(u4.getD (k) undef),(u4.getD (k) undef)] ent57 rfl rfl rfl rfl (by exact(inner_w scd (Ent.drop 8 ecd.app) (hs6.get (by omega)) (Ent.manyInts (i:=4) rfl ⟨by first | omega | (simp;omega),by first | omega | (simp;omega)⟩) (hs6.get (by omega)) (Ent.manyInts (i:=4) rfl ⟨by first | omega | (simp;omega),by first | omega | (simp;omega)⟩) (hS) (by omega) (by omega)))) rfl
 exact fun θ R ⟨h7d,_⟩=>Zq (OD.quo rfl rfl rfl (by omega)) rfl
 intro θ hall
 obtain⟨_,_,_,_,_,_,_,_,_,_⟩:=hall
 refine G.at [] 0 (env':=[(1,.pointer (some ⟨g1,0,none⟩)),(2,.pointer (some ⟨g2,0,none⟩)),(3,.pointer (some ⟨g11,0,none⟩)),(13,v3),(14,.int .i64 ((u4.length:Nat))),(15,.int .i64 ((k:Int))),(20,.map (some g9)),(22,.string (fmtB ((rSt cr cd).getD (k) []))),(27,.int .i64 (IntKind.i64.wrap ((inF cr cd ((rSt cr cd).getD (k) []) ((rSt cr cd).getD (k) [])).tdiv 2)))]) ⟨rfl,rfl,rfl,rfl,rfl,rfl,rfl,rfl,rfl,trivial⟩ (own':=box g11 66 [.int .i64 (cr),vcd,v3,.map (some g8),.map (some g9),.map (some g10)]::mapA keyP valI g10 []::mapA keyL valI g9 (hfP cr cd k)::lst 22 v3 u4::many (ints 3) u4 (rSt cr cd)::mapA keyL valI g8 (rKvs cr cd)::box g2 66 [.int .i64 (0),.slice none 0 0,.slice none 0 0,.map none,.map none,.map none]::box g1 27 [.int .i64 (cr),vcd]::own) rfl ?_
 show G _ _ _ [_] _ _ _ _
 refine G.stepD0 (OD.mapUpdate (kE:=keyL) (vE:=valI) (l:=hfP cr cd k) (k:=((rSt cr cd).getD (k) [])) (b:=(IntKind.i64.wrap ((inF cr cd ((rSt cr cd).getD (k) []) ((rSt cr cd).getD (k) [])).tdiv 2):Int)) rfl mt62.ht ke9keyL rfl rfl rfl (i:=2) rfl) rfl rfl ?_
 refine Zn (GE.blockN (Zt (Zr ?_)))
 refine Zd (OD.addI rfl rfl rfl (by omega)) rfl ?_
 refine Zm rfl (Zn (GE.ownEq (own':=box g11 66 [.int .i64 (cr),vcd,v3,.map (some g8),.map (some g9),.map (some g10)]::mapA keyP valI g10 []::mapA keyL valI g9 (hfP cr cd (k+1))::lst 22 v3 u4::many (ints 3) u4 (rSt cr cd)::mapA keyL valI g8 (rKvs cr cd)::box g2 66 [.int .i64 (0),.slice none 0 0,.slice none 0 0,.map none,.map none,.map none]::box g1 27 [.int .i64 (cr),vcd]::own) (by rw[hfP_succ] <;> rfl) ?_))
 exact GE.again (k+1) (by omega) (by first | omega | (dsimp only;omega)) ⟨rfl,rfl,rfl,rfl,rfl,rfl,trivial⟩ [] 0 rfl
 replace hc12:=of_decide_eq_false hc12
 have hke:k=(rSt cr cd).length:=by omega
 refine GC.exit (Zp (Zp (GE.hit (Zt (Zs (Zr ?_))))))
 refine Zd (OD.loadAgg rfl ti66 rfl (i:=0) rfl (us:=[.int .i64 (cr),vcd,v3,.map (some g8),.map (some g9),.map (some g10)]) rfl rfl) rfl ?_
 refine G.stepD0 (OD.store rfl ti66 rfl rfl (us:=[.int .i64 (cr),vcd,v3,.map (some g8),.map (some g9),.map (some g10)]) rfl rfl (allC rfl (allC (IsS.one scd) (allC (IsS.one hs5) (allC rfl (allC rfl (allC rfl rfl)))))) (i:=6) rfl rfl) rfl rfl ?_
 refine Zn (Zt (GC.ret ?_))
 exact GE.body [3,3,3,2,1] 3 (resN rfl (RVs.cons (rv_cells ti66 rfl (i:=6) rfl rfl) RVs.nil) rfl) rfl (⟨v3,u4,g8,g9,g10,rfl,hs5,hs6,(by assumption),congrArg (fun(l2:List (List Int × Int))=>lst 22 v3 u4::many (ints 3) u4 (rSt cr cd)::mapA keyL valI g8 (rKvs cr cd)::mapA keyL valI g9 l2::mapA keyP valI g10 []::own) ((by rw[hke] <;> rfl:hfP cr cd k=hfK cr cd))⟩)
end Go.Proofs.YtbmnnbglipkidaaGreatDoor
