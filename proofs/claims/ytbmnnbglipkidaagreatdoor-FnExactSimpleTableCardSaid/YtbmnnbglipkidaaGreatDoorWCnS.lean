/-
  Constants of roots by the second text: contracts by walks.
-/
import Derived.Test.YtbmnnbglipkidaaGreatDoorFct
import Derived.Test.YtbmnnbglipkidaaGreatDoorWIdx
import Derived.Test.YtbmnnbglipkidaaGreatDoorWLen
import Derived.Test.YtbmnnbglipkidaaGreatDoorZ24
import Derived.Test.YtbmnnbglipkidaaGreatDoorCnx
import Derived.Test.YtbmnnbglipkidaaGreatDoorZ16
namespace Go.Proofs.YtbmnnbglipkidaaGreatDoor
set_option maxRecDepth 100000
set_option maxHeartbeats 4000000
set_option linter.unusedVariables false
set_option linter.unusedSimpArgs false
open Go.RowKit
theorem ti4:TI Tryz.prog 4 false 1 (.bool false) []:=⟨fun w=>by kernel_rfl,by kernel_rfl,fun h=>by cases h⟩
theorem ti145:TI Tryz.prog 145 false 1 (.slice none 0 0) []:=⟨fun w=>by kernel_rfl,by kernel_rfl,fun h=>by cases h⟩
theorem ti147:TI Tryz.prog 147 true 5 (.agg #[.int .i64 (0),.slice none 0 0,.slice none 0 0,.slice none 0 0,.slice none 0 0]) [(0,2),(2,1),(3,1),(4,1)]:=⟨fun w=>by kernel_rfl,by kernel_rfl,fun _=>⟨_,Tryz.underlying147,fun w=>by kernel_rfl⟩⟩
theorem et145:ET Tryz.prog 145 4 1 1 (.bool false):=⟨Tryz.underlying145,by kernel_rfl,rfl,by omega⟩
theorem fa147_0:∀ (b k:Nat) w,(Instr.fieldAt 147 (.pointer (some ⟨b,k,none⟩)) 0).run Tryz.prog w = .ok (.pointer (some ⟨b,k+0,none⟩)) w:=fun b k w=>by kernel_rfl
theorem fa147_1:∀ (b k:Nat) w,(Instr.fieldAt 147 (.pointer (some ⟨b,k,none⟩)) 1).run Tryz.prog w = .ok (.pointer (some ⟨b,k+2,none⟩)) w:=fun b k w=>by kernel_rfl
theorem fa147_2:∀ (b k:Nat) w,(Instr.fieldAt 147 (.pointer (some ⟨b,k,none⟩)) 2).run Tryz.prog w = .ok (.pointer (some ⟨b,k+3,none⟩)) w:=fun b k w=>by kernel_rfl
theorem fa147_3:∀ (b k:Nat) w,(Instr.fieldAt 147 (.pointer (some ⟨b,k,none⟩)) 3).run Tryz.prog w = .ok (.pointer (some ⟨b,k+4,none⟩)) w:=fun b k w=>by kernel_rfl
theorem ent92:∀ us w,(callFunc 92 us).run Tryz.prog w = .ok (.enter 92 us) w:=fun us w=>by kernel_rfl
theorem ent93:∀ us w,(callFunc 93 us).run Tryz.prog w = .ok (.enter 93 us) w:=fun us w=>by kernel_rfl
theorem ent149:∀ us w,(callFunc 149 us).run Tryz.prog w = .ok (.enter 149 us) w:=fun us w=>by kernel_rfl
theorem ent150:∀ us w,(callFunc 150 us).run Tryz.prog w = .ok (.enter 150 us) w:=fun us w=>by kernel_rfl
theorem ent168:∀ us w,(callFunc 168 us).run Tryz.prog w = .ok (.enter 168 us) w:=fun us w=>by kernel_rfl
theorem ent177:∀ us w,(callFunc 177 us).run Tryz.prog w = .ok (.enter 177 us) w:=fun us w=>by kernel_rfl
theorem ent178:∀ us w,(callFunc 178 us).run Tryz.prog w = .ok (.enter 178 us) w:=fun us w=>by kernel_rfl
theorem l7Half_w {W:World}{own:List Asn}{cr:Int}{vcd:Value}{cd:List Int}{vx:Value}{x:List Int}(scd:IsS vcd)(ecd:Ent own fun w=>Ints w vcd cd)(sx:IsS vx)(ex:Ent own fun w=>Ints w vx x)(hS:(tyS cr cd).isSome=true)(hx:(x.length:Int)=cr):Spec Tryz.prog 150 [.agg #[.int .i64 (cr),vcd],vx] W own (fun v ow=>v = .int .i64 (hfF cr cd x)∧ow=own):=by
 refine Spec.enter Tryz.f150 _ Tryz.func150 rfl (n:=10) rfl rfl ?_
 refine Zs (Zr (G.step (OG.box (cs:=[.int .i64 (cr),vcd]) rfl rfl rfl) rfl rfl rfl ?_))
 rintro _ _ ⟨g1,rfl,rfl⟩
 refine Za rfl (Zn (Zt (Zs (Zr (Zd (OD.loadAgg rfl ti27 rfl (i:=0) rfl (us:=[.int .i64 (cr),vcd]) rfl rfl) rfl ?_)))))
 refine Zm rfl (Zm rfl (G.step (OG.call [.agg #[.int .i64 (cr),vcd],vx,vx] ent168 rfl rfl rfl rfl (by exact(l5Inner_w scd (Ent.drop 1 ecd) sx (Ent.drop 1 ex) sx (Ent.drop 1 ex) (hS) (hx) (hx)))) rfl rfl rfl ?_))
 rintro _ _ ⟨rfl,rfl⟩
 refine Zd (OD.quo rfl rfl rfl (by omega)) rfl ?_
 refine Za rfl (Zn (Zt (GC.ret ?_)))
 exact GE.body [] 1 (res1 rfl rfl) rfl (⟨rfl,rfl⟩)
theorem l7First_w {W:World}{own:List Asn}{cr:Int}{cd:List Int}{vL:Value}{uL:List Value}{vz:Value}{z:List Int}(sL:IsS vL)(eL:Ent own fun w=>Sl w vL (rSt cr cd).length 1 uL)(mL:∀ k,k<(rSt cr cd).length→Ent own fun w=>Ints w (uL.getD k undef) ((rSt cr cd).getD k []))(lL:uL.length=(rSt cr cd).length)(aL:AllS uL)(sz:IsS vz)(ez:Ent own fun w=>Ints w vz z)(hS:(tyS cr cd).isSome=true)(hz:z∈rSt cr cd)(hno:(∀ j,j<(rSt cr cd).length→(rSt cr cd).contains (lA z (-1) ((rSt cr cd).getD j []))=false)→False):Spec Tryz.prog 177 [vL,vz] W own (fun v ow=>∃ (k0:Nat) (v0:Value),v = .tuple #[(uL.getD k0 undef),v0]∧IsS v0∧(k0<(rSt cr cd).length)∧(∀ j,j<k0→(rSt cr cd).contains (lA z (-1) ((rSt cr cd).getD j []))=false)∧((rSt cr cd).contains (lA z (-1) ((rSt cr cd).getD k0 []))=true)∧ow=ints 3 v0 (lpF z (-1) ((rSt cr cd).getD k0 []))::own):=by
 have hRf:(rSt cr cd).length≤30:=by have h1:=(rtOk hS).slen;have h2:=(rtOk hS).few;omega
 have hr4:=(rtOk hS).rk
 have hlo:=(rtOk hS).lo
 have hcr:=(tyS_ok hS).1
 have hle:∀ k,k<(rSt cr cd).length→((rSt cr cd).getD k []).length≤1073741824:=fun k hk=>by have:=(root_get hS (getR_mem hk)).1;omega
 have hlz:=(root_get hS hz).1
 refine Spec.enter Tryz.f177 _ Tryz.func177 rfl (n:=29) rfl rfl ?_
 refine Zs (Zr (Za rfl (Za rfl (Zn (Zt (Zs (Zs (Zr (Za rfl (Zn (Zt (GC.block ?_))))))))))))
 refine GC.loop (ι:=Nat) (fun k=>[(0,vL),(1,vz),(6,.int .i64 ((k:Int)))]) (fun k=>own) (fun k=>(k≤(rSt cr cd).length)∧(∀ j,j<k→(rSt cr cd).contains (lA z (-1) ((rSt cr cd).getD j []))=false)) (fun k=>(rSt cr cd).length - k) 0 (⟨by omega,fun j hj=>absurd hj (Nat.not_lt_zero j)⟩) ⟨rfl,rfl,rfl,trivial⟩ [] 0 rfl ?_
 rintro k ⟨hk,h0⟩
 refine Zs (Zs (Zr (Zm rfl (Zm rfl (Zd (OD.len rfl rfl et60 rfl eL) rfl ?_)))))
 refine Zd (OD.lss rfl rfl rfl) rfl ?_
 refine Zn (Zt ?_)
 refine GC.cond rfl (fun hc1=>?_) (fun hc1=>?_)
 replace hc1:=of_decide_eq_true hc1
 refine Zk (Zt (Zs (GC.block (Zs (Zr ?_)))))
 refine Zm rfl (Zm rfl (Zm rfl (Zd (OD.indexAddr rfl et60 rfl eL rfl (by omega)) rfl ?_)))
 refine Zd (OD.loadElem rfl ti22 rfl eL (by omega) rfl) rfl ?_
 refine G.step (OG.call [vz,.int .i64 (-1),(uL.getD (k) undef)] ent47 rfl rfl rfl rfl (by exact(l5Plus_w sz ez (aL.get (by omega)) ((mL (k) (by omega))) (by omega) (by have:=(root_get hS (getR_mem (show k<(rSt cr cd).length by omega))).1;omega)))) rfl rfl rfl ?_
 rintro v2 _ ⟨_,rfl,hs3,rfl⟩
 refine Za rfl (Zn (Zt (Zs (Zr (Zm rfl (Zm rfl (G.step (OG.call [vL,v2] ent96 rfl rfl rfl rfl (by exact(l5Place_w sL (Ent.drop 1 eL) (fun k hk=>(Ent.drop 1 (mL k hk))) lL aL hs3 (Ent.ints (i:=0) rfl) (by omega) (hle)))) rfl rfl rfl ?_)))))))
 rintro _ _ ⟨rfl,rfl⟩
 refine Zd (OD.geq rfl rfl rfl) rfl ?_
 refine Zn (Zt ?_)
 refine GC.cond rfl (fun hc4=>?_) (fun hc4=>?_)
 replace hc4:=of_decide_eq_true hc4
 refine Zs (Zr (Zm rfl (Zm rfl (Zd (OD.indexAddr rfl et60 rfl (Ent.drop 1 eL) rfl (by omega)) rfl ?_))))
 refine Zd (OD.loadElem rfl ti22 rfl (Ent.drop 1 eL) (by omega) rfl) rfl ?_
 refine Zm rfl (Za rfl (Za rfl (Zn (Zt (GC.ret (GE.blockR (GE.passR (GE.passR (GE.blockR (GE.passR ?_))))))))))
 exact GE.body [] 0 (res2 rfl rfl rfl) rfl (⟨k,v2,rfl,(hs3),(by omega),(h0),((fs_P hS hz (by omega)).symm.trans (decide_eq_true hc4)),rfl⟩)
 replace hc4:=of_decide_eq_false hc4
 refine Zk (GE.blockN (Zt (Zr ?_)))
 refine Zm rfl (Zd (OD.addI rfl rfl rfl (by omega)) rfl ?_)
 exact Za rfl (Zn (GE.again (k+1) (⟨by omega,fun j hj=>(Nat.lt_succ_iff_lt_or_eq.1 hj).elim (h0 j) (fun e=>by rw[e];exact(fs_P hS hz (by omega)).symm.trans (decide_eq_false hc4))⟩) (by first | omega | (dsimp only;omega)) ⟨rfl,rfl,rfl,trivial⟩ [] 1 rfl))
 replace hc1:=of_decide_eq_false hc1
 exact(hno fun j hj=>h0 j (by omega)).elim
theorem l7Positive_w {W:World}{own:List Asn}{gm:Nat}{vdn vvl:Value}{cr:Int}{vcd:Value}{cd:List Int}{vL:Value}{uL:List Value}{vx:Value}{x:List Int}{vy:Value}{y:List Int}{vz:Value}(scd:IsS vcd)(ecd:Ent own fun w=>Ints w vcd cd)(sL:IsS vL)(eL:Ent own fun w=>Sl w vL (rSt cr cd).length 1 uL)(mL:∀ k,k<(rSt cr cd).length→Ent own fun w=>Ints w (uL.getD k undef) ((rSt cr cd).getD k []))(lL:uL.length=(rSt cr cd).length)(aL:AllS uL)(sdn:IsS vdn)(svl:IsS vvl)(sx:IsS vx)(ex:Ent own fun w=>Ints w vx x)(sy:IsS vy)(ey:Ent own fun w=>Ints w vy y)(sz:IsS vz)(ez:Ent own fun w=>Ints w vz (lpF x 1 y)){f:Nat}(hS:(tyS cr cd).isSome=true)(hx:x∈rSt cr cd)(hy:y∈rSt cr cd)(hz:lpF x 1 y∈rSt cr cd)(hm:4*(sP x+sP y).natAbs≤f)(ih:∀ {W:World} {own:List Asn} {gm:Nat} {vdn vvl:Value} {cr:Int} {vcd:Value} {cd:List Int} {vL:Value} {uL:List Value} {vx:Value} {x:List Int} {vy:Value} {y:List Int} (scd:IsS vcd) (ecd:Ent own fun w=>Ints w vcd cd) (sL:IsS vL) (eL:Ent own fun w=>Sl w vL (rSt cr cd).length 1 uL) (mL:∀ k,k<(rSt cr cd).length→Ent own fun w=>Ints w (uL.getD k undef) ((rSt cr cd).getD k [])) (lL:uL.length=(rSt cr cd).length) (aL:AllS uL) (sdn:IsS vdn) (svl:IsS vvl) (sx:IsS vx) (ex:Ent own fun w=>Ints w vx x) (sy:IsS vy) (ey:Ent own fun w=>Ints w vy y) (hS:(tyS cr cd).isSome=true) (hx:rtB (rSt cr cd) x=true) (hy:rtB (rSt cr cd) y=true) (hm:cnM x y<f),Spec Tryz.prog 92 [.pointer (some ⟨gm,0,none⟩),vx,vy] W (box gm 147 [.int .i64 (cr),vcd,vL,vdn,vvl]::memS 4 3 vdn vvl cr cd::own) (fun v ow=>v = .int .i64 (nF cr cd x y)∧ow=box gm 147 [.int .i64 (cr),vcd,vL,vdn,vvl]::memS 4 3 vdn vvl cr cd::own)):Spec Tryz.prog 149 [.pointer (some ⟨gm,0,none⟩),vx,vy,vz] W (box gm 147 [.int .i64 (cr),vcd,vL,vdn,vvl]::memS 4 3 vdn vvl cr cd::own) (fun v ow=>v = .int .i64 (nF cr cd x y)∧ow=box gm 147 [.int .i64 (cr),vcd,vL,vdn,vvl]::memS 4 3 vdn vvl cr cd::own):=by
 have hRf:(rSt cr cd).length≤30:=by have h1:=(rtOk hS).slen;have h2:=(rtOk hS).few;omega
 have hr4:=(rtOk hS).rk
 have hlo:=(rtOk hS).lo
 have hcr:=(tyS_ok hS).1
 have hle:∀ k,k<(rSt cr cd).length→((rSt cr cd).getD k []).length≤1073741824:=fun k hk=>by have:=(root_get hS (getR_mem hk)).1;omega
 have hl1:=(root_get hS hx).1
 have hl2:=(root_get hS hy).1
 have hlz:=(root_get hS hz).1
 have hm4:=lpF_len x 1 y
 have hcd:=(tyS_ok hS).2
 refine Spec.enter Tryz.f149 _ Tryz.func149 rfl (n:=108) rfl rfl ?_
 refine Zs (Zr (Za rfl (Zn (Zt (Zs (Zr (Zm rfl (Zd (OD.nilCheck rfl rfl) rfl ?_))))))))
 refine Zd (OD.fieldAddr rfl rfl fa147_0) rfl ?_
 refine Zd (OD.loadAgg rfl ti27 rfl (i:=0) rfl (us:=[.int .i64 (cr),vcd]) rfl rfl) rfl ?_
 refine G.step (OG.alloc rfl ti27 (zs:=[.int .i64 (0),.slice none 0 0]) rfl) rfl rfl rfl ?_
 rintro _ _ ⟨g1,rfl,rfl⟩
 refine G.stepD0 (OD.store rfl ti27 rfl rfl (us:=[.int .i64 (cr),vcd]) rfl rfl (allC rfl (allC (IsS.one scd) rfl)) (i:=0) rfl rfl) rfl rfl ?_
 refine Zn (Zt (Zs (Zr (Zm rfl (Zd (OD.nilCheck rfl rfl) rfl ?_)))))
 refine Zd (OD.fieldAddr rfl rfl fa147_1) rfl ?_
 refine Zd (OD.load rfl ti60 rfl (i:=1) rfl rfl) rfl ?_
 refine Za rfl (Zn (Zt (Zs (Zr (Zm rfl (Zm rfl (G.step (OG.call [vL,vz] ent177 rfl rfl rfl rfl (by exact(l7First_w sL (Ent.drop 3 eL) (fun k hk=>(Ent.drop 3 (mL k hk))) lL aL sz (Ent.drop 3 ez) (cr:=cr) (cd:=cd) (hS) (hz) (fun h=>fs_all hS hx hy hz h)))) rfl rfl rfl ?_)))))))
 rintro _ _ ⟨g2,v3,rfl,hs4,hs5,hs6,hs7,rfl⟩
 obtain⟨p,hF⟩:=fst_w hS hz hs5 hs6 hs7
 have hp3:=hF.hp
 have hRk:g2<uL.length:=by omega
 have hlr:=(root_get hS hF.hr).1
 have hls:=(root_get hS hF.hs).1
 have hfm:=fs_m hS hx hy hF hm
 have hmr:=mnF_len ((rSt cr cd).getD g2 [])
 have h10r:=(rt_tens hS (rt_in hF.hr)).2.1
 have h10s:=(rt_tens hS (rt_in hF.hs)).2.1
 have hir:=aL.get hRk
 skip
 refine Zm rfl (Zd (OD.extract rfl rfl rfl) rfl ?_)
 refine Zd (OD.extract rfl rfl rfl) rfl ?_
 refine Za rfl (Za rfl (Zn (Zt (Zs (Zr (Zm rfl (Zm rfl (Zm rfl (G.step (OG.call [(uL.getD g2 undef)] ent80 rfl rfl rfl rfl (by exact(l5Minus_w hir (Ent.drop 4 (mL (g2) (by omega))) (fun j _=>by have:=h10r j;omega) (by omega)))) rfl rfl rfl ?_)))))))))
 rintro v8 _ ⟨_,rfl,hs9,rfl⟩
 refine G.step (OG.call [vL,v3,v8] ent178 rfl rfl rfl rfl (by exact(l5Run_w sL (Ent.drop 5 eL) (fun k hk=>(Ent.drop 5 (mL k hk))) lL aL hs4 (Ent.ints (i:=1) rfl) hs9 (Ent.ints (i:=0) rfl) (by omega) (hle) (by omega) (by omega) (h10s) (mn_ten h10r) (rs_minus21 hS (rt_in hF.hs) (rt_in hF.hr) (rt_64 hS (rt_in hF.hs)) (by omega))))) rfl rfl rfl ?_
 rintro _ _ ⟨rfl,rfl⟩
 refine Zd (OD.eqv (OD.add rfl rfl rfl) (congrArg (Value.int .i64) ((by rw[hF.runS,wrap_in (by omega) (by omega)]):(IntKind.i64.wrap ((rch (fun(m:Nat)=>rtB (rSt cr cd) (lpF (lpF (lpF x 1 y) (-1) ((rSt cr cd).getD g2 [])) (m:Int) (mnF ((rSt cr cd).getD (g2) [])))) 40 0:Nat)+1):Int)=((p:Int)+1)))) rfl ?_
 refine Za rfl (Zn (Zt (Zs (Zs (Zr (Zm rfl (Zm rfl (G.step (OG.call [vx,(uL.getD g2 undef)] ent126 rfl rfl rfl rfl (by exact(l1Same_s sx (Ent.drop 5 ex) hir (Ent.drop 5 (mL (g2) (by omega))) (by omega)))) rfl rfl rfl ?_))))))))
 rintro _ _ ⟨rfl,rfl⟩
 refine Zn (Zt ?_)
 refine GC.cond rfl (fun hc10=>?_) (fun hc10=>?_)
 refine Zs (Zr (Zm rfl (Za rfl (Zn (Zt (GC.ret (GE.passR ?_)))))))
 exact GE.body [3,3] 3 (res1 rfl rfl) rfl (⟨congrArg (fun(a0:Int)=>(.int .i64 (a0):Value)) ((fs_1 hS hx hy hF hc10:((p:Int)+1:Int)=nF cr cd x y)),rfl⟩)
 refine Zk (Zt (Zs (Zs (Zr (Zm rfl (Zm rfl (G.step (OG.call [vy,(uL.getD g2 undef)] ent126 rfl rfl rfl rfl (by exact(l1Same_s sy (Ent.drop 5 ey) hir (Ent.drop 5 (mL (g2) (by omega))) (by omega)))) rfl rfl rfl ?_)))))))
 rintro _ _ ⟨rfl,rfl⟩
 refine Zn (Zt ?_)
 refine GC.cond rfl (fun hc11=>?_) (fun hc11=>?_)
 refine Zs (Zr (Zm rfl (Zd (OD.sub rfl rfl rfl) rfl ?_)))
 refine Za rfl (Zn (Zt (GC.ret (GE.passR ?_))))
 exact GE.body [3,3] 3 (res1 rfl rfl) rfl (⟨congrArg (fun(a0:Int)=>(.int .i64 (a0):Value)) ((fs_2 hS hx hy hF hc10 hc11:(IntKind.i64.wrap (0 - ((p:Int)+1)):Int)=nF cr cd x y)),rfl⟩)
 refine Zk (Zt (Zs (Zr (Zm rfl (G.step (OG.call [(uL.getD g2 undef)] ent80 rfl rfl rfl rfl (by exact(l5Minus_w hir (Ent.drop 5 (mL (g2) (by omega))) (fun j _=>by have:=h10r j;omega) (by omega)))) rfl rfl rfl ?_)))))
 rintro v12 _ ⟨_,rfl,hs13,rfl⟩
 refine Za rfl (Zn (Zt (Zs (Zr (Zm rfl (G.step (OG.call [v3] ent80 rfl rfl rfl rfl (by exact(l5Minus_w hs4 (Ent.ints (i:=2) rfl) (fun j _=>by have:=h10s j;omega) (by omega)))) rfl rfl rfl ?_))))))
 rintro v14 _ ⟨_,rfl,hs15,rfl⟩
 refine Za rfl (Zn (Zt (Zs (Zr (Zm rfl (Zm rfl (G.step (OG.call [vy,.int .i64 (-1),(uL.getD g2 undef)] ent47 rfl rfl rfl rfl (by exact(l5Plus_w sy (Ent.drop 7 ey) hir (Ent.drop 7 (mL (g2) (by omega))) (by omega) (by omega)))) rfl rfl rfl ?_)))))))
 rintro v16 _ ⟨_,rfl,hs17,rfl⟩
 refine Za rfl (Zn (Zt (Zs (Zr (Zm rfl (Zm rfl (G.step (OG.call [vx,.int .i64 (-1),(uL.getD g2 undef)] ent47 rfl rfl rfl rfl (by exact(l5Plus_w sx (Ent.drop 8 ex) hir (Ent.drop 8 (mL (g2) (by omega))) (by omega) (by omega)))) rfl rfl rfl ?_)))))))
 rintro v18 _ ⟨_,rfl,hs19,rfl⟩
 refine Za rfl (Zn (Zt (Zs (Zr (Za rfl (Zn (Zt (Zs (Zr (Za rfl (Zn (Zt (Zs (Zr (Za rfl (Zn (Zt (Zs (Zr (Za rfl (Zn (Zt (Zs (Zs (Zr (Zm rfl (Zm rfl (G.step (OG.call [vL,v16] ent91 rfl rfl rfl rfl (by exact(l5IsRoot_w sL (Ent.drop 9 eL) (fun k hk=>(Ent.drop 9 (mL k hk))) lL aL hs17 (Ent.ints (i:=1) rfl) (by omega) (hle) (lp_th hS (.inr rfl) (rt_in hy) (rt_in hF.hr)) (by rw[lpF_len];omega)))) rfl rfl rfl ?_))))))))))))))))))))))))))))
 rintro _ _ ⟨rfl,rfl⟩
 refine Zn (Zt ?_)
 refine GC.cond rfl (fun hc20=>?_) (fun hc20=>?_)
 refine Zs (Zr (Zd (OD.loadAgg rfl ti27 rfl (i:=6) rfl (us:=[.int .i64 (cr),vcd]) rfl rfl) rfl ?_))
 refine Zm rfl (G.step (OG.call [.agg #[.int .i64 (cr),vcd],v16] ent150 rfl rfl rfl rfl (by exact(l7Half_w scd (Ent.drop 9 ecd) hs17 (Ent.ints (i:=1) rfl) (hS) (by rw[lpF_len];omega)))) rfl rfl rfl ?_)
 rintro _ _ ⟨rfl,rfl⟩
 refine Za rfl (Zn (Zt (Zr (Zm rfl (Zm rfl (Zm rfl (G.step (OG.call [.pointer (some ⟨gm,0,none⟩),vy,v12] ent92 rfl rfl rfl rfl (by exact(Spec.atIdx2 (i:=7) (j:=7) rfl rfl (ih scd (Ent.drop 7 ecd) sL (Ent.drop 7 eL) (fun k hk=>(Ent.drop 7 (mL k hk))) lL aL sdn svl sy (Ent.drop 7 ey) hs13 (Ent.ints (i:=3) rfl) (hS) (rt_in hy) (rt_mn hF.hr) (hfm.1))))) rfl rfl rfl ?_)))))))
 rintro _ _ ⟨rfl,rfl⟩
 refine Zm rfl (Zm rfl (Zm rfl (G.step (OG.call [.pointer (some ⟨gm,0,none⟩),vx,v14] ent92 rfl rfl rfl rfl (by exact(Spec.atIdx2 (i:=7) (j:=7) rfl rfl (ih scd (Ent.drop 7 ecd) sL (Ent.drop 7 eL) (fun k hk=>(Ent.drop 7 (mL k hk))) lL aL sdn svl sx (Ent.drop 7 ex) hs15 (Ent.ints (i:=2) rfl) (hS) (rt_in hx) (rt_mn hF.hs) (hfm.2.1))))) rfl rfl rfl ?_)))
 rintro _ _ ⟨rfl,rfl⟩
 refine Zd (OD.mul rfl rfl rfl) rfl ?_
 refine Za rfl (Zn (Zt (Zs (Zs (Zr (Zm rfl (Zm rfl (G.step (OG.call [vL,v18] ent91 rfl rfl rfl rfl (by exact(l5IsRoot_w sL (Ent.drop 9 eL) (fun k hk=>(Ent.drop 9 (mL k hk))) lL aL hs19 (Ent.ints (i:=0) rfl) (by omega) (hle) (lp_th hS (.inr rfl) (rt_in hx) (rt_in hF.hr)) (by rw[lpF_len];omega)))) rfl rfl rfl ?_))))))))
 rintro _ _ ⟨rfl,rfl⟩
 refine Zn (Zt ?_)
 refine GC.cond rfl (fun hc21=>?_) (fun hc21=>?_)
 refine Zs (Zr (Zd (OD.loadAgg rfl ti27 rfl (i:=6) rfl (us:=[.int .i64 (cr),vcd]) rfl rfl) rfl ?_))
 refine Zm rfl (G.step (OG.call [.agg #[.int .i64 (cr),vcd],v18] ent150 rfl rfl rfl rfl (by exact(l7Half_w scd (Ent.drop 9 ecd) hs19 (Ent.ints (i:=0) rfl) (hS) (by rw[lpF_len];omega)))) rfl rfl rfl ?_)
 rintro _ _ ⟨rfl,rfl⟩
 refine Za rfl (Zn (Zt (Zr (Zm rfl (Zm rfl (Zm rfl (G.step (OG.call [.pointer (some ⟨gm,0,none⟩),v12,vx] ent92 rfl rfl rfl rfl (by exact(Spec.atIdx2 (i:=7) (j:=7) rfl rfl (ih scd (Ent.drop 7 ecd) sL (Ent.drop 7 eL) (fun k hk=>(Ent.drop 7 (mL k hk))) lL aL sdn svl hs13 (Ent.ints (i:=3) rfl) sx (Ent.drop 7 ex) (hS) (rt_mn hF.hr) (rt_in hx) (hfm.2.2.1))))) rfl rfl rfl ?_)))))))
 rintro _ _ ⟨rfl,rfl⟩
 refine Zm rfl (Zm rfl (Zm rfl (G.step (OG.call [.pointer (some ⟨gm,0,none⟩),vy,v14] ent92 rfl rfl rfl rfl (by exact(Spec.atIdx2 (i:=7) (j:=7) rfl rfl (ih scd (Ent.drop 7 ecd) sL (Ent.drop 7 eL) (fun k hk=>(Ent.drop 7 (mL k hk))) lL aL sdn svl sy (Ent.drop 7 ey) hs15 (Ent.ints (i:=2) rfl) (hS) (rt_in hy) (rt_mn hF.hs) (hfm.2.2.2))))) rfl rfl rfl ?_)))
 rintro _ _ ⟨rfl,rfl⟩
 refine Zd (OD.mul rfl rfl rfl) rfl ?_
 refine Za rfl (Zn (Zt (Zs (Zr (Zd (OD.loadAgg rfl ti27 rfl (i:=6) rfl (us:=[.int .i64 (cr),vcd]) rfl rfl) rfl ?_)))))
 refine Zm rfl (G.step (OG.call [.agg #[.int .i64 (cr),vcd],vz] ent150 rfl rfl rfl rfl (by exact(l7Half_w scd (Ent.drop 9 ecd) sz (Ent.drop 9 ez) (hS) (by rw[lpF_len];omega)))) rfl rfl rfl ?_)
 rintro _ _ ⟨rfl,rfl⟩
 refine Zm rfl (Zm rfl (Zd (OD.mul rfl rfl rfl) rfl ?_))
 refine Zm rfl (Zm rfl (Zd (OD.mul rfl rfl rfl) rfl ?_))
 refine Zd (OD.add rfl rfl rfl) rfl ?_
 refine Zd (OD.mul rfl rfl rfl) rfl ?_
 refine Zm rfl (Zm rfl (Zd (OD.mul rfl rfl rfl) rfl ?_))
 refine Zm rfl (Zd (OD.mul rfl rfl rfl) rfl ?_)
 refine Zd (OD.quo rfl rfl rfl (dv_ne hS (nu_yes hS hc20) (nu_yes hS hc21) hp3)) rfl ?_
 refine Za rfl (Zn (Zt (GC.ret ?_)))
 exact GE.body [7,7] 7 (res1 rfl rfl) rfl (⟨congrArg (fun(a0:Int)=>(.int .i64 (a0):Value)) ((fs_4 hS hx hy hz hF hc10 hc11 (ab_yes hS (rt_in hy) (rt_mn hF.hr) (rt_in hx) (rt_mn hF.hs) hc20) (ab_yes hS (rt_mn hF.hr) (rt_in hx) (rt_in hy) (rt_mn hF.hs) hc21) (nu_yes hS hc20) (nu_yes hS hc21):(IntKind.i64.wrap ((IntKind.i64.wrap ((hfF cr cd (lpF x 1 y))*(IntKind.i64.wrap ((IntKind.i64.wrap ((IntKind.i64.wrap ((nF cr cd y (mnF ((rSt cr cd).getD (g2) [])))*(nF cr cd x (mnF (lpF (lpF x 1 y) (-1) ((rSt cr cd).getD g2 []))))))*(hfF cr cd (lpF x (-1) ((rSt cr cd).getD (g2) [])))))+(IntKind.i64.wrap ((IntKind.i64.wrap ((nF cr cd (mnF ((rSt cr cd).getD (g2) [])) x)*(nF cr cd y (mnF (lpF (lpF x 1 y) (-1) ((rSt cr cd).getD g2 []))))))*(hfF cr cd (lpF y (-1) ((rSt cr cd).getD (g2) []))))))))).tdiv (IntKind.i64.wrap ((IntKind.i64.wrap ((hfF cr cd (lpF y (-1) ((rSt cr cd).getD (g2) [])))*(hfF cr cd (lpF x (-1) ((rSt cr cd).getD (g2) [])))))*((p:Int)+1)))):Int)=nF cr cd x y)),rfl⟩)
 refine Zk (Zt (Zs (Zr (Zd (OD.loadAgg rfl ti27 rfl (i:=6) rfl (us:=[.int .i64 (cr),vcd]) rfl rfl) rfl ?_))))
 refine Zm rfl (G.step (OG.call [.agg #[.int .i64 (cr),vcd],vz] ent150 rfl rfl rfl rfl (by exact(l7Half_w scd (Ent.drop 9 ecd) sz (Ent.drop 9 ez) (hS) (by rw[lpF_len];omega)))) rfl rfl rfl ?_)
 rintro _ _ ⟨rfl,rfl⟩
 refine Zm rfl (Zm rfl (Zd (OD.mul rfl rfl rfl) rfl ?_))
 refine Zm rfl (Zm rfl (Zd (OD.mul rfl rfl rfl) rfl ?_))
 refine Zd (OD.add rfl rfl rfl) rfl ?_
 refine Zd (OD.mul rfl rfl rfl) rfl ?_
 refine Zm rfl (Zm rfl (Zd (OD.mul rfl rfl rfl) rfl ?_))
 refine Zm rfl (Zd (OD.mul rfl rfl rfl) rfl ?_)
 refine Zd (OD.quo rfl rfl rfl (dv_ne hS (nu_yes hS hc20) (nu_no hc21) hp3)) rfl ?_
 refine Za rfl (Zn (Zt (GC.ret ?_)))
 exact GE.body [7,7] 7 (res1 rfl rfl) rfl (⟨congrArg (fun(a0:Int)=>(.int .i64 (a0):Value)) ((fs_4 hS hx hy hz hF hc10 hc11 (ab_yes hS (rt_in hy) (rt_mn hF.hr) (rt_in hx) (rt_mn hF.hs) hc20) (ab_no hc21) (nu_yes hS hc20) (nu_no hc21):(IntKind.i64.wrap ((IntKind.i64.wrap ((hfF cr cd (lpF x 1 y))*(IntKind.i64.wrap ((IntKind.i64.wrap ((IntKind.i64.wrap ((nF cr cd y (mnF ((rSt cr cd).getD (g2) [])))*(nF cr cd x (mnF (lpF (lpF x 1 y) (-1) ((rSt cr cd).getD g2 []))))))*1))+(IntKind.i64.wrap (0*(hfF cr cd (lpF y (-1) ((rSt cr cd).getD (g2) []))))))))).tdiv (IntKind.i64.wrap ((IntKind.i64.wrap ((hfF cr cd (lpF y (-1) ((rSt cr cd).getD (g2) [])))*1))*((p:Int)+1)))):Int)=nF cr cd x y)),rfl⟩)
 refine Zk (Zt (Zs (Zs (Zr (Zm rfl (Zm rfl (G.step (OG.call [vL,v18] ent91 rfl rfl rfl rfl (by exact(l5IsRoot_w sL (Ent.drop 9 eL) (fun k hk=>(Ent.drop 9 (mL k hk))) lL aL hs19 (Ent.ints (i:=0) rfl) (by omega) (hle) (lp_th hS (.inr rfl) (rt_in hx) (rt_in hF.hr)) (by rw[lpF_len];omega)))) rfl rfl rfl ?_)))))))
 rintro _ _ ⟨rfl,rfl⟩
 refine Zn (Zt ?_)
 refine GC.cond rfl (fun hc22=>?_) (fun hc22=>?_)
 refine Zs (Zr (Zd (OD.loadAgg rfl ti27 rfl (i:=6) rfl (us:=[.int .i64 (cr),vcd]) rfl rfl) rfl ?_))
 refine Zm rfl (G.step (OG.call [.agg #[.int .i64 (cr),vcd],v18] ent150 rfl rfl rfl rfl (by exact(l7Half_w scd (Ent.drop 9 ecd) hs19 (Ent.ints (i:=0) rfl) (hS) (by rw[lpF_len];omega)))) rfl rfl rfl ?_)
 rintro _ _ ⟨rfl,rfl⟩
 refine Za rfl (Zn (Zt (Zr (Zm rfl (Zm rfl (Zm rfl (G.step (OG.call [.pointer (some ⟨gm,0,none⟩),v12,vx] ent92 rfl rfl rfl rfl (by exact(Spec.atIdx2 (i:=7) (j:=7) rfl rfl (ih scd (Ent.drop 7 ecd) sL (Ent.drop 7 eL) (fun k hk=>(Ent.drop 7 (mL k hk))) lL aL sdn svl hs13 (Ent.ints (i:=3) rfl) sx (Ent.drop 7 ex) (hS) (rt_mn hF.hr) (rt_in hx) (hfm.2.2.1))))) rfl rfl rfl ?_)))))))
 rintro _ _ ⟨rfl,rfl⟩
 refine Zm rfl (Zm rfl (Zm rfl (G.step (OG.call [.pointer (some ⟨gm,0,none⟩),vy,v14] ent92 rfl rfl rfl rfl (by exact(Spec.atIdx2 (i:=7) (j:=7) rfl rfl (ih scd (Ent.drop 7 ecd) sL (Ent.drop 7 eL) (fun k hk=>(Ent.drop 7 (mL k hk))) lL aL sdn svl sy (Ent.drop 7 ey) hs15 (Ent.ints (i:=2) rfl) (hS) (rt_in hy) (rt_mn hF.hs) (hfm.2.2.2))))) rfl rfl rfl ?_)))
 rintro _ _ ⟨rfl,rfl⟩
 refine Zd (OD.mul rfl rfl rfl) rfl ?_
 refine Za rfl (Zn (Zt (Zs (Zr (Zd (OD.loadAgg rfl ti27 rfl (i:=6) rfl (us:=[.int .i64 (cr),vcd]) rfl rfl) rfl ?_)))))
 refine Zm rfl (G.step (OG.call [.agg #[.int .i64 (cr),vcd],vz] ent150 rfl rfl rfl rfl (by exact(l7Half_w scd (Ent.drop 9 ecd) sz (Ent.drop 9 ez) (hS) (by rw[lpF_len];omega)))) rfl rfl rfl ?_)
 rintro _ _ ⟨rfl,rfl⟩
 refine Zm rfl (Zm rfl (Zd (OD.mul rfl rfl rfl) rfl ?_))
 refine Zm rfl (Zm rfl (Zd (OD.mul rfl rfl rfl) rfl ?_))
 refine Zd (OD.add rfl rfl rfl) rfl ?_
 refine Zd (OD.mul rfl rfl rfl) rfl ?_
 refine Zm rfl (Zm rfl (Zd (OD.mul rfl rfl rfl) rfl ?_))
 refine Zm rfl (Zd (OD.mul rfl rfl rfl) rfl ?_)
 refine Zd (OD.quo rfl rfl rfl (dv_ne hS (nu_no hc20) (nu_yes hS hc22) hp3)) rfl ?_
 refine Za rfl (Zn (Zt (GC.ret ?_)))
 exact GE.body [7,7] 7 (res1 rfl rfl) rfl (⟨congrArg (fun(a0:Int)=>(.int .i64 (a0):Value)) ((fs_4 hS hx hy hz hF hc10 hc11 (ab_no hc20) (ab_yes hS (rt_mn hF.hr) (rt_in hx) (rt_in hy) (rt_mn hF.hs) hc22) (nu_no hc20) (nu_yes hS hc22):(IntKind.i64.wrap ((IntKind.i64.wrap ((hfF cr cd (lpF x 1 y))*(IntKind.i64.wrap ((IntKind.i64.wrap (0*(hfF cr cd (lpF x (-1) ((rSt cr cd).getD (g2) [])))))+(IntKind.i64.wrap ((IntKind.i64.wrap ((nF cr cd (mnF ((rSt cr cd).getD (g2) [])) x)*(nF cr cd y (mnF (lpF (lpF x 1 y) (-1) ((rSt cr cd).getD g2 []))))))*1)))))).tdiv (IntKind.i64.wrap ((IntKind.i64.wrap (1*(hfF cr cd (lpF x (-1) ((rSt cr cd).getD (g2) [])))))*((p:Int)+1)))):Int)=nF cr cd x y)),rfl⟩)
 refine Zk (Zt (Zs (Zr (Zd (OD.loadAgg rfl ti27 rfl (i:=6) rfl (us:=[.int .i64 (cr),vcd]) rfl rfl) rfl ?_))))
 refine Zm rfl (G.step (OG.call [.agg #[.int .i64 (cr),vcd],vz] ent150 rfl rfl rfl rfl (by exact(l7Half_w scd (Ent.drop 9 ecd) sz (Ent.drop 9 ez) (hS) (by rw[lpF_len];omega)))) rfl rfl rfl ?_)
 rintro _ _ ⟨rfl,rfl⟩
 refine Zm rfl (Zm rfl (Zd (OD.mul rfl rfl rfl) rfl ?_))
 refine Zm rfl (Zm rfl (Zd (OD.mul rfl rfl rfl) rfl ?_))
 refine Zd (OD.add rfl rfl rfl) rfl ?_
 refine Zd (OD.mul rfl rfl rfl) rfl ?_
 refine Zm rfl (Zm rfl (Zd (OD.mul rfl rfl rfl) rfl ?_))
 refine Zm rfl (Zd (OD.mul rfl rfl rfl) rfl ?_)
 refine Zd (OD.quo rfl rfl rfl (dv_ne hS (nu_no hc20) (nu_no hc22) hp3)) rfl ?_
 refine Za rfl (Zn (Zt (GC.ret ?_)))
 exact GE.body [7,7] 7 (res1 rfl rfl) rfl (⟨congrArg (fun(a0:Int)=>(.int .i64 (a0):Value)) ((fs_4 hS hx hy hz hF hc10 hc11 (ab_no hc20) (ab_no hc22) (nu_no hc20) (nu_no hc22):(IntKind.i64.wrap ((IntKind.i64.wrap ((hfF cr cd (lpF x 1 y))*(IntKind.i64.wrap ((IntKind.i64.wrap (0*1))+(IntKind.i64.wrap (0*1)))))).tdiv (IntKind.i64.wrap ((IntKind.i64.wrap (1*1))*((p:Int)+1)))):Int)=nF cr cd x y)),rfl⟩)
theorem l7Find_w (f:Nat):∀ {W:World} {own:List Asn} {gm:Nat} {vdn vvl:Value} {cr:Int} {vcd:Value} {cd:List Int} {vL:Value} {uL:List Value} {vx:Value} {x:List Int} {vy:Value} {y:List Int} (scd:IsS vcd) (ecd:Ent own fun w=>Ints w vcd cd) (sL:IsS vL) (eL:Ent own fun w=>Sl w vL (rSt cr cd).length 1 uL) (mL:∀ k,k<(rSt cr cd).length→Ent own fun w=>Ints w (uL.getD k undef) ((rSt cr cd).getD k [])) (lL:uL.length=(rSt cr cd).length) (aL:AllS uL) (sdn:IsS vdn) (svl:IsS vvl) (sx:IsS vx) (ex:Ent own fun w=>Ints w vx x) (sy:IsS vy) (ey:Ent own fun w=>Ints w vy y) (hS:(tyS cr cd).isSome=true) (hx:rtB (rSt cr cd) x=true) (hy:rtB (rSt cr cd) y=true) (hm:cnM x y<f),Spec Tryz.prog 92 [.pointer (some ⟨gm,0,none⟩),vx,vy] W (box gm 147 [.int .i64 (cr),vcd,vL,vdn,vvl]::memS 4 3 vdn vvl cr cd::own) (fun v ow=>v = .int .i64 (nF cr cd x y)∧ow=box gm 147 [.int .i64 (cr),vcd,vL,vdn,vvl]::memS 4 3 vdn vvl cr cd::own):=by
 induction f with
 | zero =>
   intro W own gm vdn vvl cr vcd cd vL uL vx x vy y scd ecd sL eL mL lL aL sdn svl sx ex sy ey hS hx hy hm
   omega
 | succ f ih =>
  intro W own gm vdn vvl cr vcd cd vL uL vx x vy y scd ecd sL eL mL lL aL sdn svl sx ex sy ey hS hx hy hm
  have hRf:(rSt cr cd).length≤30:=by have h1:=(rtOk hS).slen;have h2:=(rtOk hS).few;omega
  have hr4:=(rtOk hS).rk
  have hlo:=(rtOk hS).lo
  have hcr:=(tyS_ok hS).1
  have hle:∀ k,k<(rSt cr cd).length→((rSt cr cd).getD k []).length≤1073741824:=fun k hk=>by have:=(root_get hS (getR_mem hk)).1;omega
  have hl1:=(rt_tens hS hx).1
  have hl2:=(rt_tens hS hy).1
  have h10x:=(rt_tens hS hx).2.1
  have h10y:=(rt_tens hS hy).2.1
  have hm4:=lpF_len x 1 y
  have hcd:=(tyS_ok hS).2
  refine Spec.enter Tryz.f92 _ Tryz.func92 rfl (n:=130) rfl rfl ?_
  refine Zs (Zr (Za rfl (Zn (Zt (Zs (Zr (Zm rfl (Zd (OD.nilCheck rfl rfl) rfl ?_))))))))
  refine Zd (OD.fieldAddr rfl rfl fa147_0) rfl ?_
  refine Zd (OD.loadAgg rfl ti27 rfl (i:=0) rfl (us:=[.int .i64 (cr),vcd]) rfl rfl) rfl ?_
  refine G.step (OG.alloc rfl ti27 (zs:=[.int .i64 (0),.slice none 0 0]) rfl) rfl rfl rfl ?_
  rintro _ _ ⟨g1,rfl,rfl⟩
  refine G.stepD0 (OD.store rfl ti27 rfl rfl (us:=[.int .i64 (cr),vcd]) rfl rfl (allC rfl (allC (IsS.one scd) rfl)) (i:=0) rfl rfl) rfl rfl ?_
  refine Zn (Zt (Zs (Zr (Zm rfl (Zd (OD.nilCheck rfl rfl) rfl ?_)))))
  refine Zd (OD.fieldAddr rfl rfl fa147_1) rfl ?_
  refine Zd (OD.load rfl ti60 rfl (i:=1) rfl rfl) rfl ?_
  refine Za rfl (Zn (Zt (Zs (Zr (Zm rfl (Zm rfl (G.step (OG.call [vx,.int .i64 (1),vy] ent47 rfl rfl rfl rfl (by exact(l5Plus_w sx (Ent.drop 3 ex) sy (Ent.drop 3 ey) (by omega) (by omega)))) rfl rfl rfl ?_)))))))
  rintro v2 _ ⟨_,rfl,hs3,rfl⟩
  refine Za rfl (Zn (Zt (Zs (Zs (Zr (Zm rfl (Zm rfl (G.step (OG.call [vL,v2] ent91 rfl rfl rfl rfl (by exact(l5IsRoot_w sL (Ent.drop 4 eL) (fun k hk=>(Ent.drop 4 (mL k hk))) lL aL hs3 (Ent.ints (i:=0) rfl) (by omega) (hle) (lp_th hS (.inl rfl) hx hy) (by omega)))) rfl rfl rfl ?_))))))))
  rintro _ _ ⟨rfl,rfl⟩
  refine Zd (OD.not rfl rfl) rfl ?_
  refine Zn (Zt ?_)
  refine GC.cond rfl (fun hc4=>?_) (fun hc4=>?_)
  replace hc4:=eq_false_of_not hc4
  refine Zs (Zr (Za rfl (Zn (Zt (GC.ret (GE.passR ?_))))))
  skip
  exact GE.body [2,2] 2 (res1 rfl rfl) rfl (⟨congrArg (fun(a0:Int)=>(.int .i64 (a0):Value)) ((of_no hS hx hy hc4:(0:Int)=nF cr cd x y)),rfl⟩)
  replace hc4:=eq_true_of_not hc4
  have hz:rtB (rSt cr cd) (lpF x 1 y)=true:=hc4
  refine Zk (Zt (Zs (Zr (Zm rfl (G.step (OG.call [vx] ent95 rfl rfl rfl rfl (by exact(l5Positive_w sx (Ent.drop 4 ex) (by omega)))) rfl rfl rfl ?_)))))
  rintro _ _ ⟨rfl,rfl⟩
  refine Za rfl (Zn (Zt (Zs (Zr (Zm rfl (G.step (OG.call [vy] ent95 rfl rfl rfl rfl (by exact(l5Positive_w sy (Ent.drop 4 ey) (by omega)))) rfl rfl rfl ?_))))))
  rintro _ _ ⟨rfl,rfl⟩
  refine Za rfl (Zn (Zt (Zs (GC.block (Zs (Zr ?_))))))
  refine Zm rfl (Zm rfl ?_)
  rcases Bool.eq_false_or_eq_true (posL x) with hg5 | hg5
  have hg5e:=hg5
  refine G.at [] 0 (env':=[(0,.pointer (some ⟨gm,0,none⟩)),(1,vx),(2,vy),(6,.int .i64 (0)),(13,.pointer (some ⟨gm,0,none⟩)),(14,.pointer (some ⟨gm,0,none⟩)),(15,.pointer (some ⟨gm,0,none⟩)),(16,.agg #[.int .i64 (cr),vcd]),(7,.pointer (some ⟨g1,0,none⟩)),(17,.pointer (some ⟨gm,0,none⟩)),(18,.pointer (some ⟨gm,0,none⟩)),(19,.pointer (some ⟨gm,2,none⟩)),(20,vL),(8,vL),(21,vx),(22,vy),(23,v2),(9,v2),(24,vL),(25,v2),(26,.bool (rtB (rSt cr cd) (lpF x 1 y))),(27,.bool (!(rtB (rSt cr cd) (lpF x 1 y)))),(28,vx),(29,.bool true),(10,.bool true),(30,vy),(31,.bool (posL y)),(11,.bool (posL y)),(33,.bool true),(34,.bool true)]) (⟨rfl,rfl,rfl,rfl,rfl,rfl,rfl,rfl,rfl,rfl,rfl,rfl,rfl,rfl,rfl,rfl,rfl,rfl,rfl,rfl,rfl,rfl,rfl,(congrArg (fun b=>some (Value.bool b)) hg5e),(congrArg (fun b=>some (Value.bool b)) hg5e),rfl,rfl,rfl,(congrArg (fun b=>some (Value.bool b)) hg5e),(congrArg (fun b=>some (Value.bool b)) hg5e),trivial⟩) rfl ?_
  refine G.stepGD (OD.move rfl rfl) rfl rfl rfl rfl rfl ?_
  refine Zd (OD.pickT rfl rfl rfl) rfl ?_
  refine Za rfl (Zn (Zt ?_))
  refine GC.cond rfl (fun hc6=>?_) (fun hc6=>?_)
  refine Zs ?_
  obtain⟨hxm,hym,hzm⟩:=pp_in hS hx hy hz (ps_t hS hx hg5e) (ps_t hS hy hc6)
  obtain⟨q,hq⟩:∃ q:Nat,q=(plF (rSt cr cd) x).toNat*(rSt cr cd).length+(plF (rSt cr cd) y).toNat:=⟨_,rfl⟩
  obtain⟨hqe,hql⟩:=at_eq hS hxm hym hq
  refine Zr (Zm rfl (Zm rfl (G.step (OG.call [vL,vx] ent96 rfl rfl rfl rfl (by exact(l5Place_w sL (Ent.drop 4 eL) (fun k hk=>(Ent.drop 4 (mL k hk))) lL aL sx (Ent.drop 4 ex) (by omega) (hle)))) rfl rfl rfl ?_)))
  rintro _ _ ⟨rfl,rfl⟩
  refine Zm rfl (Zd (OD.len rfl rfl et60 rfl (Ent.drop 4 eL)) rfl ?_)
  refine Zd (OD.mul rfl rfl rfl) rfl ?_
  refine Zm rfl (Zm rfl (G.step (OG.call [vL,vy] ent96 rfl rfl rfl rfl (by exact(l5Place_w sL (Ent.drop 4 eL) (fun k hk=>(Ent.drop 4 (mL k hk))) lL aL sy (Ent.drop 4 ey) (by omega) (hle)))) rfl rfl rfl ?_))
  rintro _ _ ⟨rfl,rfl⟩
  refine Zd (OD.eqv (OD.add rfl rfl rfl) (congrArg (Value.int .i64) ((hqe):(IntKind.i64.wrap ((IntKind.i64.wrap ((plF (rSt cr cd) x)*((rSt cr cd).length:Nat)))+(plF (rSt cr cd) y)):Int)=((q:Int))))) rfl ?_
  refine Za rfl (Zn (Zt (Zs (Zs ?_))))
  refine GC.at [3,0,0,0] 0 (env':=[(0,.pointer (some ⟨gm,0,none⟩)),(1,vx),(2,vy),(6,.int .i64 (0)),(13,.pointer (some ⟨gm,0,none⟩)),(14,.pointer (some ⟨gm,0,none⟩)),(15,.pointer (some ⟨gm,0,none⟩)),(16,.agg #[.int .i64 (cr),vcd]),(7,.pointer (some ⟨g1,0,none⟩)),(17,.pointer (some ⟨gm,0,none⟩)),(18,.pointer (some ⟨gm,0,none⟩)),(19,.pointer (some ⟨gm,2,none⟩)),(20,vL),(8,vL),(21,vx),(22,vy),(23,v2),(9,v2),(24,vL),(25,v2),(26,.bool (rtB (rSt cr cd) (lpF x 1 y))),(27,.bool (!(rtB (rSt cr cd) (lpF x 1 y)))),(28,vx),(29,.bool true),(10,.bool true),(30,vy),(31,.bool (posL y)),(11,.bool (posL y)),(33,.bool true),(34,.bool true),(35,.bool (posL y)),(36,.bool (posL y)),(32,.bool (posL y)),(37,vL),(38,vx),(39,.int .i64 (plF (rSt cr cd) x)),(40,vL),(41,.int .i64 (((rSt cr cd).length:Nat))),(42,.int .i64 (IntKind.i64.wrap ((plF (rSt cr cd) x)*((rSt cr cd).length:Nat)))),(43,vL),(44,vy),(45,.int .i64 (plF (rSt cr cd) y)),(46,.int .i64 ((q:Int))),(12,.int .i64 ((q:Int)))]) ⟨rfl,rfl,rfl,rfl,rfl,rfl,rfl,rfl,rfl,rfl,rfl,rfl,rfl,rfl,rfl,rfl,rfl,rfl,rfl,rfl,rfl,rfl,rfl,rfl,rfl,rfl,rfl,rfl,rfl,rfl,rfl,rfl,rfl,rfl,rfl,rfl,rfl,rfl,rfl,rfl,rfl,rfl,rfl,rfl,trivial⟩ (own':=memS 4 3 vdn vvl cr cd::ints 3 v2 (lpF x 1 y)::box g1 27 [.int .i64 (cr),vcd]::box gm 147 [.int .i64 (cr),vcd,vL,vdn,vvl]::own) rfl ?_
  refine GC.mesOpen fun dmm7 vmm7 hmm7=>?_
  have hmm7d:=hmm7.1
  have hmm7v:=hmm7.2.1
  refine Zr (Zm rfl (Zd (OD.nilCheck rfl rfl) rfl ?_))
  refine Zd (OD.fieldAddr rfl rfl fa147_2) rfl ?_
  refine Zd (OD.load rfl ti145 rfl (i:=4) rfl rfl) rfl ?_
  refine Zm rfl (Zd (OD.indexAddr rfl et145 rfl (Ent.bls (i:=0) rfl) rfl (by omega)) rfl ?_)
  refine Zd (OD.loadBool rfl ti4 rfl (Ent.bls (i:=0) rfl) (by omega)) rfl ?_
  refine Zd (OD.not rfl rfl) rfl ?_
  refine Zn (Zt ?_)
  refine GC.cond rfl (fun hc8=>?_) (fun hc8=>?_)
  replace hc8:=eq_false_of_not hc8
  refine Zs (GC.mesClose (n:=cr) (d:=cd) (hmm7) ?_)
  refine GC.at [] 0 (env':=[(0,.pointer (some ⟨gm,0,none⟩)),(1,vx),(2,vy),(9,v2),(12,.int .i64 ((q:Int)))]) ⟨rfl,rfl,rfl,rfl,rfl,trivial⟩ rfl ?_
  refine GC.par (its:=[Z0 55 (.pointer (some ⟨gm,0,none⟩)),
      Z1 56 [(0,55)] (.pointer (some ⟨gm,0,none⟩)),
      Z1 57 [(1,56)] (.pointer (some ⟨gm,4,none⟩)),
      Z1 58 [(2,57)] vvl,
      Z0 59 (.int .i64 ((q:Int))),
      Z0 60 (.pointer (some ⟨gm,0,none⟩)),
      Z0 61 vx,
      Z0 62 vy,
      Z0 63 v2,
      Z1 64 [(5,60),(6,61),(7,62),(8,63)] (.int .i64 (nF cr cd x y)),
      Z1 65 [(3,58),(4,59)] (elemPtr vvl 1 (q))]) (by kernel_rfl) (by kernel_rfl) (Zc ?_ (Zc ?_ (Zc ?_ (Zc ?_ (Zc ?_ (Zc ?_ (Zc ?_ (Zc ?_ (Zc ?_ (Zc ?_ (Zc ?_ POps.nil))))))))))) ?_
  exact fun θ R hd=>Zq (OD.move rfl rfl) rfl
  exact fun θ R ⟨h0d,_⟩=>Zq (OD.nilCheck rfl rfl) rfl
  exact fun θ R ⟨h1d,_⟩=>Zq (OD.fieldAddr rfl rfl fa147_3) rfl
  exact fun θ R ⟨h2d,_⟩=>Zq (OD.load rfl ti22 rfl (i:=3) rfl rfl) rfl
  exact fun θ R hd=>Zq (OD.move rfl rfl) rfl
  exact fun θ R hd=>Zq (OD.move rfl rfl) rfl
  exact fun θ R hd=>Zq (OD.move rfl rfl) rfl
  exact fun θ R hd=>Zq (OD.move rfl rfl) rfl
  exact fun θ R hd=>Zq (OD.move rfl rfl) rfl
  exact fun θ R ⟨h5d,h6d,h7d,h8d,_⟩=>Zq (OG.call [.pointer (some ⟨gm,0,none⟩),vx,vy,v2] ent149 rfl rfl rfl rfl (by exact(Spec.atIdx2 (i:=3) (j:=0) rfl rfl (l7Positive_w scd (Ent.drop 2 ecd.app) sL (Ent.drop 2 eL.app) (fun k hk=>(Ent.drop 2 ((mL k hk).app))) lL aL sdn svl sx (Ent.drop 2 ex.app) sy (Ent.drop 2 ey.app) hs3 (Ent.ints (i:=0) rfl) (hS) (hxm) (hym) (hzm) (pp_m (ps_t hS hx hg5e) (ps_t hS hy hc6) hm) (@ih))))) rfl
  exact fun θ R ⟨h3d,h4d,_⟩=>Zq (OD.indexAddrE rfl et22 rfl (Ent.mes (i:=0) rfl) rfl (by omega)) rfl
  intro θ hall
  obtain⟨_,_,_,_,_,_,_,_,_,_,_,_⟩:=hall
  refine G.at [] 0 (env':=[(0,.pointer (some ⟨gm,0,none⟩)),(12,.int .i64 ((q:Int))),(64,.int .i64 (nF cr cd x y)),(65,elemPtr vvl 1 (q))]) ⟨rfl,rfl,rfl,rfl,trivial⟩ (own':=memS 4 3 vdn vvl cr cd::ints 3 v2 (lpF x 1 y)::box g1 27 [.int .i64 (cr),vcd]::box gm 147 [.int .i64 (cr),vcd,vL,vdn,vvl]::own) rfl ?_
  show G _ _ _ [_] _ _ _ _
  refine G.mesOpen fun dmm9 vmm9 hmm9=>?_
  have hmm9d:=hmm9.1
  have hmm9v:=hmm9.2.1
  skip
  refine G.stepD0 (OD.storeInt rfl ti3 rfl rfl (i:=1) rfl (by omega)) rfl rfl ?_
  refine Zn (Zt (Zr (Zm rfl (Zd (OD.nilCheck rfl rfl) rfl ?_))))
  refine Zd (OD.fieldAddr rfl rfl fa147_2) rfl ?_
  refine Zd (OD.load rfl ti145 rfl (i:=4) rfl rfl) rfl ?_
  refine Zm rfl (Zd (OD.indexAddr rfl et145 rfl (Ent.bls (i:=0) rfl) rfl (by first | omega | (simp only[List.length_set,List.length_replicate];omega))) rfl ?_)
  refine G.stepD0 (OD.storeBool rfl ti4 rfl rfl (i:=0) rfl (by first | omega | (simp only[List.length_set,List.length_replicate];omega))) rfl rfl ?_
  refine Zn (Zt (Zs (Zr (Zm rfl (Zd (OD.nilCheck rfl rfl) rfl ?_)))))
  refine Zd (OD.fieldAddr rfl rfl fa147_3) rfl ?_
  refine Zd (OD.load rfl ti22 rfl (i:=4) rfl rfl) rfl ?_
  refine Zm rfl (Zd (OD.indexAddr rfl et22 rfl (Ent.ints (i:=1) rfl) rfl (by first | omega | (simp only[List.length_set,List.length_replicate];omega))) rfl ?_)
  refine Zd (OD.loadInt rfl ti3 rfl (Ent.ints (i:=1) rfl) (by first | omega | (simp only[List.length_set,List.length_replicate];omega))) rfl ?_
  refine Za rfl (Zn (Zt (GC.ret (GE.blockR (GE.passR ?_)))))
  refine GE.mesClose (n:=cr) (d:=cd) (hmm9.setq hxm hym hq) ?_
  skip
  exact GE.body [3,0] 2 (res1 rfl rfl) rfl (⟨congrArg (fun(a0:Int)=>(.int .i64 (a0):Value)) ((set_q (by omega):(((vmm9).set (q) (nF cr cd x y)).getD (q) 0:Int)=nF cr cd x y)),rfl⟩)
  replace hc8:=eq_true_of_not hc8
  refine Zk (Zt (Zs (Zr (Zm rfl (Zd (OD.nilCheck rfl rfl) rfl ?_)))))
  refine Zd (OD.fieldAddr rfl rfl fa147_3) rfl ?_
  refine Zd (OD.load rfl ti22 rfl (i:=4) rfl rfl) rfl ?_
  refine Zm rfl (Zd (OD.indexAddr rfl et22 rfl (Ent.ints (i:=1) rfl) rfl (by omega)) rfl ?_)
  refine Zd (OD.loadInt rfl ti3 rfl (Ent.ints (i:=1) rfl) (by omega)) rfl ?_
  refine Za rfl (Zn (Zt (GC.ret (GE.blockR (GE.passR ?_)))))
  refine GE.mesClose (n:=cr) (d:=cd) (hmm7) ?_
  skip
  exact GE.body [3,0] 2 (res1 rfl rfl) rfl (⟨congrArg (fun(a0:Int)=>(.int .i64 (a0):Value)) ((hmm7.getq hxm hym hq hc8:(vmm7.getD (q) 0:Int)=nF cr cd x y)),rfl⟩)
  refine Zs (Zr (Zm rfl (Zd (OD.not rfl rfl) rfl ?_)))
  refine Zm rfl (G.skipG rfl rfl rfl rfl rfl rfl (G.skipG rfl rfl rfl rfl rfl rfl ?_))
  refine Zd (OD.pickF rfl rfl rfl) rfl ?_
  refine Za rfl (Zn (Zt (GC.condF rfl (Zs (Zr ?_)))))
  refine Zm rfl (Zd (OD.not rfl rfl) rfl ?_)
  refine Za rfl (Zn (Zt (GC.condF rfl (Zk (GE.blockN (Zt (Zs (Zs (Zr ?_)))))))))
  refine Zm rfl (G.step (OG.call [v2] ent95 rfl rfl rfl rfl (by exact(l5Positive_w hs3 (Ent.ints (i:=0) rfl) (by omega)))) rfl rfl rfl ?_)
  rintro _ _ ⟨rfl,rfl⟩
  refine Zn (Zt ?_)
  refine GC.cond rfl (fun hc10=>?_) (fun hc10=>?_)
  refine Zs (GC.at [] 0 (env':=[(0,.pointer (some ⟨gm,0,none⟩)),(1,vx),(2,vy),(6,.int .i64 (0)),(7,.pointer (some ⟨g1,0,none⟩)),(9,v2)]) ⟨rfl,rfl,rfl,rfl,rfl,rfl,trivial⟩ rfl ?_)
  refine GC.par (its:=[Z0 103 (.agg #[.int .i64 (cr),vcd]),
      Z0 104 v2,
      Z1 105 [(0,103),(1,104)] (.int .i64 (hfF cr cd (lpF x 1 y))),
      Z0 106 (.pointer (some ⟨gm,0,none⟩)),
      Z0 107 vy,
      ⟨108,[(4,107)],[],[],[5],fun ds=>((ds.getD 0 []).getD 0 undef),fun ds=>IsS ((ds.getD 0 []).getD 0 undef),fun ds=>[ints 3 ((ds.getD 0 []).getD 0 undef) (mnF y)]⟩,
      Z0 109 v2,
      ⟨110,[(3,106),(5,108),(6,109)],[5],[],[5],fun _ => .int .i64 (nF cr cd (mnF y) (lpF x 1 y)),fun _=>True,fun _=>[]⟩,
      ⟨111,[(2,105),(7,110)],[5],[],[5],fun _ => .int .i64 (IntKind.i64.wrap ((hfF cr cd (lpF x 1 y))*(nF cr cd (mnF y) (lpF x 1 y)))),fun _=>True,fun _=>[]⟩,
      Z0 112 (.agg #[.int .i64 (cr),vcd]),
      Z0 113 vx,
      Z1 114 [(9,112),(10,113)] (.int .i64 (hfF cr cd x)),
      ⟨115,[(8,111),(11,114)],[5],[],[5],fun _ => .int .i64 (IntKind.i64.wrap ((IntKind.i64.wrap ((hfF cr cd (lpF x 1 y))*(nF cr cd (mnF y) (lpF x 1 y)))).tdiv (hfF cr cd x))),fun _=>True,fun _=>[]⟩,
      ⟨116,[(12,115)],[5],[],[5],fun _ => .int .i64 (IntKind.i64.wrap (0 - (IntKind.i64.wrap ((IntKind.i64.wrap ((hfF cr cd (lpF x 1 y))*(nF cr cd (mnF y) (lpF x 1 y)))).tdiv (hfF cr cd x))))),fun _=>True,fun _=>[]⟩]) (by kernel_rfl) (by kernel_rfl) (Zc ?_ (Zc ?_ (Zc ?_ (Zc ?_ (Zc ?_ (Zc ?_ (Zc ?_ (Zc ?_ (Zc ?_ (Zc ?_ (Zc ?_ (Zc ?_ (Zc ?_ (Zc ?_ POps.nil)))))))))))))) ?_
  exact fun θ R hd=>Zq (OD.loadAgg rfl ti27 rfl (i:=1) rfl (us:=[.int .i64 (cr),vcd]) rfl rfl) rfl
  exact fun θ R hd=>Zq (OD.move rfl rfl) rfl
  exact fun θ R ⟨h0d,h1d,_⟩=>Zq (OG.call [.agg #[.int .i64 (cr),vcd],v2] ent150 rfl rfl rfl rfl (by exact(l7Half_w scd (Ent.drop 4 ecd.app) hs3 (Ent.ints (i:=0) rfl) (hS) (by omega)))) rfl
  exact fun θ R hd=>Zq (OD.move rfl rfl) rfl
  exact fun θ R hd=>Zq (OD.move rfl rfl) rfl
  exact fun θ R ⟨h4d,_⟩=>Opp.plain (OG.imp (OG.call [vy] ent80 rfl rfl rfl rfl (by exact(l5Minus_w sy (Ent.drop 4 ey.app) (fun j _=>by have:=h10y j;omega) (by omega)))) (by rintro v11 _ ⟨_,rfl,hs12,rfl⟩;exact⟨[v11],rfl,hs12,rfl⟩)) rfl
  exact fun θ R hd=>Zq (OD.move rfl rfl) rfl
  exact fun θ R ⟨h3d,h5d,h6d,_⟩=>Zq (OG.call [.pointer (some ⟨gm,0,none⟩),((θ 5).getD 0 undef),v2] ent92 rfl rfl rfl rfl (by exact(Spec.atIdx2 (i:=3) (j:=3) rfl rfl (ih scd (Ent.drop 3 ecd.app) sL (Ent.drop 3 eL.app) (fun k hk=>(Ent.drop 3 ((mL k hk).app))) lL aL sdn svl h5d (Ent.ints (i:=0) rfl) hs3 (Ent.ints (i:=1) rfl) (hS) (rt_mn2 hy) (hz) (m_pnQ hS hx hy (ps_t hS hx hg5e) (ps_f hS hy hc6) (ps_t hS hz hc10) hm))))) rfl
  exact fun θ R ⟨h2d,h7d,_⟩=>Zq (OD.mul rfl rfl rfl) rfl
  exact fun θ R hd=>Zq (OD.loadAgg rfl ti27 rfl (i:=1) rfl (us:=[.int .i64 (cr),vcd]) rfl rfl) rfl
  exact fun θ R hd=>Zq (OD.move rfl rfl) rfl
  exact fun θ R ⟨h9d,h10d,_⟩=>Zq (OG.call [.agg #[.int .i64 (cr),vcd],vx] ent150 rfl rfl rfl rfl (by exact(l7Half_w scd (Ent.drop 4 ecd.app) sx (Ent.drop 4 ex.app) (hS) (by omega)))) rfl
  exact fun θ R ⟨h8d,h11d,_⟩=>Zq (OD.quo rfl rfl rfl (by rw[hf_of hS hx];have:=hn_bd hS hx;omega)) rfl
  exact fun θ R ⟨h12d,_⟩=>Zq (OD.sub rfl rfl rfl) rfl
  intro θ hall
  obtain⟨_,_,_,_,_,h5a,_,_,_,_,_,_,_,_,_⟩:=hall
  refine G.at [] 0 (env':=[(6,.int .i64 (0)),(116,.int .i64 (IntKind.i64.wrap (0 - (IntKind.i64.wrap ((IntKind.i64.wrap ((hfF cr cd (lpF x 1 y))*(nF cr cd (mnF y) (lpF x 1 y)))).tdiv (hfF cr cd x))))))]) ⟨rfl,rfl,trivial⟩ (own':=ints 3 ((θ 5).getD 0 undef) (mnF y)::ints 3 v2 (lpF x 1 y)::box g1 27 [.int .i64 (cr),vcd]::box gm 147 [.int .i64 (cr),vcd,vL,vdn,vvl]::memS 4 3 vdn vvl cr cd::own) rfl ?_
  have hs13:IsS ((θ 5).getD 0 undef):=h5a
  clear h5a
  generalize ((θ 5).getD 0 undef)=v14 at *
  show G _ _ _ [_] _ _ _ _
  refine Za rfl (Zn (Zt (GC.ret (GE.passR ?_))))
  skip
  exact GE.body [3,3] 3 (res1 rfl rfl) rfl (⟨congrArg (fun(a0:Int)=>(.int .i64 (a0):Value)) ((sf_pnP hS hx hy hz (ps_t hS hx hg5e) (ps_f hS hy hc6) (ps_t hS hz hc10):(IntKind.i64.wrap (0 - (IntKind.i64.wrap ((IntKind.i64.wrap ((hfF cr cd (lpF x 1 y))*(nF cr cd (mnF y) (lpF x 1 y)))).tdiv (hfF cr cd x)))):Int)=nF cr cd x y)),rfl⟩)
  refine Zk (Zt (Zs (GC.at [] 0 (env':=[(0,.pointer (some ⟨gm,0,none⟩)),(1,vx),(2,vy),(6,.int .i64 (0)),(7,.pointer (some ⟨g1,0,none⟩)),(9,v2)]) ⟨rfl,rfl,rfl,rfl,rfl,rfl,trivial⟩ rfl ?_)))
  refine GC.par (its:=[Z0 117 (.agg #[.int .i64 (cr),vcd]),
      Z0 118 v2,
      Z1 119 [(0,117),(1,118)] (.int .i64 (hfF cr cd (lpF x 1 y))),
      Z0 120 (.pointer (some ⟨gm,0,none⟩)),
      Z0 121 v2,
      ⟨122,[(4,121)],[],[],[5],fun ds=>((ds.getD 0 []).getD 0 undef),fun ds=>IsS ((ds.getD 0 []).getD 0 undef),fun ds=>[ints 3 ((ds.getD 0 []).getD 0 undef) (mnF (lpF x 1 y))]⟩,
      Z0 123 vx,
      ⟨124,[(3,120),(5,122),(6,123)],[5],[],[5],fun _ => .int .i64 (nF cr cd (mnF (lpF x 1 y)) x),fun _=>True,fun _=>[]⟩,
      ⟨125,[(2,119),(7,124)],[5],[],[5],fun _ => .int .i64 (IntKind.i64.wrap ((hfF cr cd (lpF x 1 y))*(nF cr cd (mnF (lpF x 1 y)) x))),fun _=>True,fun _=>[]⟩,
      Z0 126 (.agg #[.int .i64 (cr),vcd]),
      Z0 127 vy,
      Z1 128 [(9,126),(10,127)] (.int .i64 (hfF cr cd y)),
      ⟨129,[(8,125),(11,128)],[5],[],[5],fun _ => .int .i64 (IntKind.i64.wrap ((IntKind.i64.wrap ((hfF cr cd (lpF x 1 y))*(nF cr cd (mnF (lpF x 1 y)) x))).tdiv (hfF cr cd y))),fun _=>True,fun _=>[]⟩]) (by kernel_rfl) (by kernel_rfl) (Zc ?_ (Zc ?_ (Zc ?_ (Zc ?_ (Zc ?_ (Zc ?_ (Zc ?_ (Zc ?_ (Zc ?_ (Zc ?_ (Zc ?_ (Zc ?_ (Zc ?_ POps.nil))))))))))))) ?_
  exact fun θ R hd=>Zq (OD.loadAgg rfl ti27 rfl (i:=1) rfl (us:=[.int .i64 (cr),vcd]) rfl rfl) rfl
  exact fun θ R hd=>Zq (OD.move rfl rfl) rfl
  exact fun θ R ⟨h0d,h1d,_⟩=>Zq (OG.call [.agg #[.int .i64 (cr),vcd],v2] ent150 rfl rfl rfl rfl (by exact(l7Half_w scd (Ent.drop 4 ecd.app) hs3 (Ent.ints (i:=0) rfl) (hS) (by omega)))) rfl
  exact fun θ R hd=>Zq (OD.move rfl rfl) rfl
  exact fun θ R hd=>Zq (OD.move rfl rfl) rfl
  exact fun θ R ⟨h4d,_⟩=>Opp.plain (OG.imp (OG.call [v2] ent80 rfl rfl rfl rfl (by exact(l5Minus_w hs3 (Ent.ints (i:=0) rfl) (lp_th hS (.inl rfl) hx hy) (by omega)))) (by rintro v15 _ ⟨_,rfl,hs16,rfl⟩;exact⟨[v15],rfl,hs16,rfl⟩)) rfl
  exact fun θ R hd=>Zq (OD.move rfl rfl) rfl
  exact fun θ R ⟨h3d,h5d,h6d,_⟩=>Zq (OG.call [.pointer (some ⟨gm,0,none⟩),((θ 5).getD 0 undef),vx] ent92 rfl rfl rfl rfl (by exact(Spec.atIdx2 (i:=3) (j:=3) rfl rfl (ih scd (Ent.drop 3 ecd.app) sL (Ent.drop 3 eL.app) (fun k hk=>(Ent.drop 3 ((mL k hk).app))) lL aL sdn svl h5d (Ent.ints (i:=0) rfl) sx (Ent.drop 3 ex.app) (hS) (rt_mn2 hz) (hx) (m_pnN hS hx hy hz (ps_t hS hx hg5e) (ps_f hS hy hc6) (ps_f hS hz hc10) hm))))) rfl
  exact fun θ R ⟨h2d,h7d,_⟩=>Zq (OD.mul rfl rfl rfl) rfl
  exact fun θ R hd=>Zq (OD.loadAgg rfl ti27 rfl (i:=1) rfl (us:=[.int .i64 (cr),vcd]) rfl rfl) rfl
  exact fun θ R hd=>Zq (OD.move rfl rfl) rfl
  exact fun θ R ⟨h9d,h10d,_⟩=>Zq (OG.call [.agg #[.int .i64 (cr),vcd],vy] ent150 rfl rfl rfl rfl (by exact(l7Half_w scd (Ent.drop 4 ecd.app) sy (Ent.drop 4 ey.app) (hS) (by omega)))) rfl
  exact fun θ R ⟨h8d,h11d,_⟩=>Zq (OD.quo rfl rfl rfl (by rw[hf_of hS hy];have:=hn_bd hS hy;omega)) rfl
  intro θ hall
  obtain⟨_,_,_,_,_,h5a,_,_,_,_,_,_,_,_⟩:=hall
  refine G.at [] 0 (env':=[(6,.int .i64 (0)),(129,.int .i64 (IntKind.i64.wrap ((IntKind.i64.wrap ((hfF cr cd (lpF x 1 y))*(nF cr cd (mnF (lpF x 1 y)) x))).tdiv (hfF cr cd y))))]) ⟨rfl,rfl,trivial⟩ (own':=ints 3 ((θ 5).getD 0 undef) (mnF (lpF x 1 y))::ints 3 v2 (lpF x 1 y)::box g1 27 [.int .i64 (cr),vcd]::box gm 147 [.int .i64 (cr),vcd,vL,vdn,vvl]::memS 4 3 vdn vvl cr cd::own) rfl ?_
  have hs17:IsS ((θ 5).getD 0 undef):=h5a
  clear h5a
  generalize ((θ 5).getD 0 undef)=v18 at *
  show G _ _ _ [_] _ _ _ _
  refine Za rfl (Zn (Zt (GC.ret ?_)))
  skip
  exact GE.body [3,3] 3 (res1 rfl rfl) rfl (⟨congrArg (fun(a0:Int)=>(.int .i64 (a0):Value)) ((sf_pnN hS hx hy hz (ps_t hS hx hg5e) (ps_f hS hy hc6) (ps_f hS hz hc10):(IntKind.i64.wrap ((IntKind.i64.wrap ((hfF cr cd (lpF x 1 y))*(nF cr cd (mnF (lpF x 1 y)) x))).tdiv (hfF cr cd y)):Int)=nF cr cd x y)),rfl⟩)
  have hg5e:=hg5
  refine G.at [] 0 (env':=[(0,.pointer (some ⟨gm,0,none⟩)),(1,vx),(2,vy),(6,.int .i64 (0)),(13,.pointer (some ⟨gm,0,none⟩)),(14,.pointer (some ⟨gm,0,none⟩)),(15,.pointer (some ⟨gm,0,none⟩)),(16,.agg #[.int .i64 (cr),vcd]),(7,.pointer (some ⟨g1,0,none⟩)),(17,.pointer (some ⟨gm,0,none⟩)),(18,.pointer (some ⟨gm,0,none⟩)),(19,.pointer (some ⟨gm,2,none⟩)),(20,vL),(8,vL),(21,vx),(22,vy),(23,v2),(9,v2),(24,vL),(25,v2),(26,.bool (rtB (rSt cr cd) (lpF x 1 y))),(27,.bool (!(rtB (rSt cr cd) (lpF x 1 y)))),(28,vx),(29,.bool false),(10,.bool false),(30,vy),(31,.bool (posL y)),(11,.bool (posL y)),(33,.bool false),(34,.bool false)]) (⟨rfl,rfl,rfl,rfl,rfl,rfl,rfl,rfl,rfl,rfl,rfl,rfl,rfl,rfl,rfl,rfl,rfl,rfl,rfl,rfl,rfl,rfl,rfl,(congrArg (fun b=>some (Value.bool b)) hg5e),(congrArg (fun b=>some (Value.bool b)) hg5e),rfl,rfl,rfl,(congrArg (fun b=>some (Value.bool b)) hg5e),(congrArg (fun b=>some (Value.bool b)) hg5e),trivial⟩) rfl ?_
  refine G.skipG rfl rfl rfl rfl rfl rfl ?_
  refine Zd (OD.pickF rfl rfl rfl) rfl ?_
  refine Za rfl (Zn (Zt (GC.condF rfl (Zs (Zr ?_)))))
  refine Zm rfl (Zd (OD.not rfl rfl) rfl ?_)
  refine Zm rfl (G.stepGD (OD.move rfl rfl) rfl rfl rfl rfl rfl ?_)
  refine G.stepGD (OD.not rfl rfl) rfl rfl rfl rfl rfl ?_
  refine Zd (OD.pickT rfl rfl rfl) rfl ?_
  refine Za rfl (Zn (Zt ?_))
  refine GC.cond rfl (fun hc19=>?_) (fun hc19=>?_)
  replace hc19:=eq_false_of_not hc19
  refine Zs (Zr (Zm rfl (Zm rfl (G.step (OG.call [vx] ent80 rfl rfl rfl rfl (by exact(l5Minus_w sx (Ent.drop 4 ex) (fun j _=>by have:=h10x j;omega) (by omega)))) rfl rfl rfl ?_))))
  rintro v20 _ ⟨_,rfl,hs21,rfl⟩
  refine Zm rfl (G.step (OG.call [vy] ent80 rfl rfl rfl rfl (by exact(l5Minus_w sy (Ent.drop 5 ey) (fun j _=>by have:=h10y j;omega) (by omega)))) rfl rfl rfl ?_)
  rintro v22 _ ⟨_,rfl,hs23,rfl⟩
  refine G.step (OG.call [.pointer (some ⟨gm,0,none⟩),v20,v22] ent92 rfl rfl rfl rfl (by exact(Spec.atIdx2 (i:=4) (j:=4) rfl rfl (ih scd (Ent.drop 4 ecd) sL (Ent.drop 4 eL) (fun k hk=>(Ent.drop 4 (mL k hk))) lL aL sdn svl hs21 (Ent.ints (i:=1) rfl) hs23 (Ent.ints (i:=0) rfl) (hS) (rt_mn2 hx) (rt_mn2 hy) (m_nn hS hx hy (ps_f hS hx hg5e) (ps_f hS hy hc19) hm))))) rfl rfl rfl ?_
  rintro _ _ ⟨rfl,rfl⟩
  refine Zd (OD.sub rfl rfl rfl) rfl ?_
  refine Za rfl (Zn (Zt (GC.ret (GE.blockR (GE.passR ?_)))))
  skip
  exact GE.body [4,4] 4 (res1 rfl rfl) rfl (⟨congrArg (fun(a0:Int)=>(.int .i64 (a0):Value)) ((sf_nn hS hx hy (ps_f hS hx hg5e) (ps_f hS hy hc19):(IntKind.i64.wrap (0 - (nF cr cd (mnF x) (mnF y))):Int)=nF cr cd x y)),rfl⟩)
  replace hc19:=eq_true_of_not hc19
  refine Zs (Zr (Zm rfl (Zd (OD.not rfl rfl) rfl ?_)))
  refine Za rfl (Zn (Zt (GC.condT rfl (Zs (Zr ?_)))))
  refine Zm rfl (Zm rfl (Zm rfl (G.step (OG.call [.pointer (some ⟨gm,0,none⟩),vy,vx] ent92 rfl rfl rfl rfl (by exact(Spec.atIdx2 (i:=2) (j:=2) rfl rfl (ih scd (Ent.drop 2 ecd) sL (Ent.drop 2 eL) (fun k hk=>(Ent.drop 2 (mL k hk))) lL aL sdn svl sy (Ent.drop 2 ey) sx (Ent.drop 2 ex) (hS) (hy) (hx) (m_np hS hx (ps_f hS hx hg5e) (ps_t hS hy hc19) hm))))) rfl rfl rfl ?_)))
  rintro _ _ ⟨rfl,rfl⟩
  refine Zd (OD.sub rfl rfl rfl) rfl ?_
  refine Za rfl (Zn (Zt (GC.ret (GE.blockR (GE.passR ?_)))))
  skip
  exact GE.body [2,2] 2 (res1 rfl rfl) rfl (⟨congrArg (fun(a0:Int)=>(.int .i64 (a0):Value)) ((of_np hS hx hy (ps_f hS hx hg5e) (ps_t hS hy hc19):(IntKind.i64.wrap (0 - (nF cr cd y x)):Int)=nF cr cd x y)),rfl⟩)
theorem l7New_w {W:World}{own:List Asn}{cr:Int}{vcd:Value}{cd:List Int}{vL:Value}{uL:List Value}(scd:IsS vcd)(ecd:Ent own fun w=>Ints w vcd cd)(sL:IsS vL)(eL:Ent own fun w=>Sl w vL (rSt cr cd).length 1 uL)(mL:∀ k,k<(rSt cr cd).length→Ent own fun w=>Ints w (uL.getD k undef) ((rSt cr cd).getD k []))(lL:uL.length=(rSt cr cd).length)(aL:AllS uL)(hS:(tyS cr cd).isSome=true):Spec Tryz.prog 93 [.agg #[.int .i64 (cr),vcd],vL] W own (fun v ow=>∃ (g0:Nat) (v0:Value) (w0:Value),v = .pointer (some ⟨g0,0,none⟩)∧IsS v0∧IsS w0∧ow=box g0 147 [.int .i64 (cr),vcd,vL,v0,w0]::memS 4 3 v0 w0 cr cd::own):=by
 have hRf:(rSt cr cd).length≤30:=by have h1:=(rtOk hS).slen;have h2:=(rtOk hS).few;omega
 have hr4:=(rtOk hS).rk
 have hlo:=(rtOk hS).lo
 have hcr:=(tyS_ok hS).1
 have hle:∀ k,k<(rSt cr cd).length→((rSt cr cd).getD k []).length≤1073741824:=fun k hk=>by have:=(root_get hS (getR_mem hk)).1;omega
 have hmm:=mul_abs (a:=((rSt cr cd).length:Int)) (b:=((rSt cr cd).length:Int)) (A:=30) (B:=30) (by omega) (by omega)
 have hmn:(((rSt cr cd).length:Int)*((rSt cr cd).length:Int)).toNat=(rSt cr cd).length*(rSt cr cd).length:=by rw[← Int.natCast_mul];rfl
 have hm0:0≤((rSt cr cd).length:Int)*((rSt cr cd).length:Int):=by rw[← Int.natCast_mul];omega
 refine Spec.enter Tryz.f93 _ Tryz.func93 rfl (n:=20) rfl rfl ?_
 refine Zs (Zr (G.step (OG.box (cs:=[.int .i64 (cr),vcd]) rfl rfl rfl) rfl rfl rfl ?_))
 rintro _ _ ⟨g1,rfl,rfl⟩
 refine Za rfl (Zn (Zt (Zs (Zr (Zm rfl (Zd (OD.len rfl rfl et60 rfl (Ent.drop 1 eL)) rfl ?_))))))
 refine Za rfl (Zn (Zt (Zs (GC.at [] 0 (env':=[(1,vL),(2,.pointer (some ⟨g1,0,none⟩)),(4,.pointer none),(5,.int .i64 (((rSt cr cd).length:Nat)))]) ⟨rfl,rfl,rfl,rfl,trivial⟩ rfl ?_))))
 refine GC.par (its:=[Z0 8 (.agg #[.int .i64 (cr),vcd]),
     Z0 9 vL,
     Z0 10 (.int .i64 (((rSt cr cd).length:Nat))),
     Z0 11 (.int .i64 (((rSt cr cd).length:Nat))),
     Z1 12 [(2,10),(3,11)] (.int .i64 (((rSt cr cd).length:Nat)*((rSt cr cd).length:Nat))),
     ⟨13,[(4,12)],[],[],[5],fun ds=>((ds.getD 0 []).getD 0 undef),fun ds=>IsS ((ds.getD 0 []).getD 0 undef),fun ds=>[bls 4 ((ds.getD 0 []).getD 0 undef) (List.replicate (((rSt cr cd).length:Nat)*((rSt cr cd).length:Nat):Int).toNat false)]⟩,
     Z0 14 (.int .i64 (((rSt cr cd).length:Nat))),
     Z0 15 (.int .i64 (((rSt cr cd).length:Nat))),
     Z1 16 [(6,14),(7,15)] (.int .i64 (((rSt cr cd).length:Nat)*((rSt cr cd).length:Nat))),
     ⟨17,[(8,16)],[],[],[9],fun ds=>((ds.getD 0 []).getD 0 undef),fun ds=>IsS ((ds.getD 0 []).getD 0 undef),fun ds=>[ints 3 ((ds.getD 0 []).getD 0 undef) (List.replicate (((rSt cr cd).length:Nat)*((rSt cr cd).length:Nat):Int).toNat (0:Int))]⟩,
     ⟨18,[(0,8),(1,9),(5,13),(9,17)],[5,9],[],[5,9],fun ds => .agg #[.int .i64 (cr),vcd,vL,((ds.getD 0 []).getD 0 undef),((ds.getD 1 []).getD 0 undef)],fun _=>True,fun _=>[]⟩,
     ⟨19,[(10,18)],[5,9],[],[5,9,11],fun ds => .pointer (some ⟨(gOf ((ds.getD 2 []).getD 0 undef)),0,none⟩),fun _=>True,fun ds=>[box (gOf ((ds.getD 2 []).getD 0 undef)) 147 [.int .i64 (cr),vcd,vL,((ds.getD 0 []).getD 0 undef),((ds.getD 1 []).getD 0 undef)]]⟩]) (by kernel_rfl) (by kernel_rfl) (Zc ?_ (Zc ?_ (Zc ?_ (Zc ?_ (Zc ?_ (Zc ?_ (Zc ?_ (Zc ?_ (Zc ?_ (Zc ?_ (Zc ?_ (Zc ?_ POps.nil)))))))))))) ?_
 exact fun θ R hd=>Zq (OD.loadAgg rfl ti27 rfl (i:=0) rfl (us:=[.int .i64 (cr),vcd]) rfl rfl) rfl
 exact fun θ R hd=>Zq (OD.move rfl rfl) rfl
 exact fun θ R hd=>Zq (OD.move rfl rfl) rfl
 exact fun θ R hd=>Zq (OD.move rfl rfl) rfl
 exact fun θ R ⟨h2d,h3d,_⟩=>Zq (OD.mulI rfl rfl rfl (by omega)) rfl
 exact fun θ R ⟨h4d,_⟩=>Opp.plain (OG.imp (OG.makeBools rfl et145 rfl rfl (by omega)) (by rintro v2 _ ⟨hs3,rfl⟩;exact⟨[v2],rfl,hs3,rfl⟩)) rfl
 exact fun θ R hd=>Zq (OD.move rfl rfl) rfl
 exact fun θ R hd=>Zq (OD.move rfl rfl) rfl
 exact fun θ R ⟨h6d,h7d,_⟩=>Zq (OD.mulI rfl rfl rfl (by omega)) rfl
 exact fun θ R ⟨h8d,_⟩=>Opp.plain (OG.imp (OG.makeInts rfl et22 rfl rfl (by omega)) (by rintro v4 _ ⟨hs5,rfl⟩;exact⟨[v4],rfl,hs5,rfl⟩)) rfl
 exact fun θ R ⟨h0d,h1d,h5d,h9d,_⟩=>Zq (OD.build (idx:=[0,1,2,3]) (xs:=[.tmp 8,.tmp 9,.tmp 13,.tmp 17]) (vs:=[.agg #[.int .i64 (cr),vcd],vL,((θ 5).getD 0 undef),((θ 9).getD 0 undef)]) (cs:=[[.int .i64 (cr),vcd],[vL],[((θ 5).getD 0 undef)],[((θ 9).getD 0 undef)]]) (zs:=[.int .i64 (0),.slice none 0 0,.slice none 0 0,.slice none 0 0,.slice none 0 0]) (r:=[.int .i64 (cr),vcd,vL,((θ 5).getD 0 undef),((θ 9).getD 0 undef)]) rfl ti147 rfl rfl rfl ⟨rfl,⟨(one_cells (IsS.one sL)),⟨(one_cells (IsS.one h5d)),⟨(one_cells (IsS.one h9d)),trivial⟩⟩⟩⟩ rfl) rfl
 exact fun θ R ⟨h10d,_⟩=>Opp.plain (OG.imp (OG.box (cs:=[.int .i64 (cr),vcd,vL,((θ 5).getD 0 undef),((θ 9).getD 0 undef)]) rfl rfl rfl) (by rintro _ _ ⟨g6,rfl,rfl⟩;exact⟨[.pointer (some ⟨g6,0,none⟩)],rfl,trivial,rfl⟩)) rfl
 intro θ hall
 obtain⟨_,_,_,_,_,h5a,_,_,_,h9a,_,h11a,_⟩:=hall
 refine G.at [] 0 (env':=[(4,.pointer none),(19,.pointer (some ⟨(gOf ((θ 11).getD 0 undef)),0,none⟩))]) ⟨rfl,rfl,trivial⟩ (own':=bls 4 ((θ 5).getD 0 undef) (List.replicate (((rSt cr cd).length:Nat)*((rSt cr cd).length:Nat):Int).toNat false)::ints 3 ((θ 9).getD 0 undef) (List.replicate (((rSt cr cd).length:Nat)*((rSt cr cd).length:Nat):Int).toNat (0:Int))::box (gOf ((θ 11).getD 0 undef)) 147 [.int .i64 (cr),vcd,vL,((θ 5).getD 0 undef),((θ 9).getD 0 undef)]::box g1 27 [.int .i64 (cr),vcd]::own) rfl ?_
 have hs7:IsS ((θ 5).getD 0 undef):=h5a
 clear h5a
 generalize ((θ 5).getD 0 undef)=v8 at *
 have hs9:IsS ((θ 9).getD 0 undef):=h9a
 clear h9a
 generalize ((θ 9).getD 0 undef)=v10 at *
 clear h11a
 generalize (gOf ((θ 11).getD 0 undef))=b11 at *
 show G _ _ _ [_] _ _ _ _
 refine Za rfl (Zn (Zt (GC.ret ?_)))
 refine GE.mesClose (n:=cr) (d:=cd) (MmOk.new (by omega)) ?_
 skip
 exact GE.body [1,0] 1 (res1 rfl rfl) rfl (⟨b11,v8,v10,rfl,(hs7),(hs9),rfl⟩)
end Go.Proofs.YtbmnnbglipkidaaGreatDoor
