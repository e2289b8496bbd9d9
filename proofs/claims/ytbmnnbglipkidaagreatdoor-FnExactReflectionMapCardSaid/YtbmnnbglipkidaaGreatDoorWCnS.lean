/-
  Constants of roots by the second text: contracts by walks.
-/
import Derived.Test.YtbmnnbglipkidaaGreatDoorZ51
import Derived.Test.YtbmnnbglipkidaaGreatDoorCnx
namespace Go.Proofs.YtbmnnbglipkidaaGreatDoor
set_option maxRecDepth 100000
set_option maxHeartbeats 4000000
set_option linter.unusedVariables false
set_option linter.unusedSimpArgs false
open Go.RowKit
theorem gK:TI Tryz.prog 4 false 1 (.bool false) []:=⟨fun w=>by kernel_rfl,by kernel_rfl,fun h=>by cases h⟩
theorem aw:TI Tryz.prog 145 false 1 (.slice none 0 0) []:=⟨fun w=>by kernel_rfl,by kernel_rfl,fun h=>by cases h⟩
theorem dX:TI Tryz.prog 147 true 5 (.agg #[J (0),.slice none 0 0,.slice none 0 0,.slice none 0 0,.slice none 0 0]) [(0,2),(2,1),(3,1),(4,1)]:=⟨fun w=>by kernel_rfl,by kernel_rfl,fun _=>⟨_,Tryz.underlying147,fun w=>by kernel_rfl⟩⟩
theorem To:ET Tryz.prog 145 4 1 1 (.bool false):=⟨Tryz.underlying145,by kernel_rfl,rfl,by omega⟩
theorem Qj:∀ (b k:Nat) w,(Instr.fieldAt 147 (.pointer (some ⟨b,k,none⟩)) 0).run Tryz.prog w = .ok (.pointer (some ⟨b,k+0,none⟩)) w:=fun b k w=>by kernel_rfl
theorem P8:∀ (b k:Nat) w,(Instr.fieldAt 147 (.pointer (some ⟨b,k,none⟩)) 1).run Tryz.prog w = .ok (.pointer (some ⟨b,k+2,none⟩)) w:=fun b k w=>by kernel_rfl
theorem Ra:∀ (b k:Nat) w,(Instr.fieldAt 147 (.pointer (some ⟨b,k,none⟩)) 2).run Tryz.prog w = .ok (.pointer (some ⟨b,k+3,none⟩)) w:=fun b k w=>by kernel_rfl
theorem Mp:∀ (b k:Nat) w,(Instr.fieldAt 147 (.pointer (some ⟨b,k,none⟩)) 3).run Tryz.prog w = .ok (.pointer (some ⟨b,k+4,none⟩)) w:=fun b k w=>by kernel_rfl
theorem E7:∀ us w,(callFunc 92 us).run Tryz.prog w = .ok (.enter 92 us) w:=fun us w=>by kernel_rfl
theorem eg:∀ us w,(callFunc 93 us).run Tryz.prog w = .ok (.enter 93 us) w:=fun us w=>by kernel_rfl
theorem c8:∀ us w,(callFunc 149 us).run Tryz.prog w = .ok (.enter 149 us) w:=fun us w=>by kernel_rfl
theorem Dw:∀ us w,(callFunc 150 us).run Tryz.prog w = .ok (.enter 150 us) w:=fun us w=>by kernel_rfl
theorem cV:∀ us w,(callFunc 177 us).run Tryz.prog w = .ok (.enter 177 us) w:=fun us w=>by kernel_rfl
theorem bV:∀ us w,(callFunc 178 us).run Tryz.prog w = .ok (.enter 178 us) w:=fun us w=>by kernel_rfl
theorem B9 {W:World}{own:List Asn}{cr:Int}{vcd:Value}{cd:List Int}{vx:Value}{x:List Int}(scd:Ab vcd)(ecd:Ent own fun w=>Ints w vcd cd)(sx:Ab vx)(ex:Ent own fun w=>Ints w vx x)(hS:(Ax cr cd).isSome=true)(hx:(x.length:Int)=cr):Spec Tryz.prog 150 [.agg #[J (cr),vcd],vx] W own (fun v ow=>v=J (Dm cr cd x)∧ow=own):=by
 refine Spec.enter Tryz.f150 _ Tryz.func150 rfl (n:=10) rfl rfl ?_
 refine Zs (Zr (Yt (OG.box (cs:=[J (cr),vcd]) rfl rfl rfl) ?_))
 rintro _ _ ⟨g1,rfl,rfl⟩
 refine Za rfl (Zn (Zt (Zs (Zr (Zd (Qa An 0 [_,_]) rfl ?_)))))
 refine Zm rfl (Zm rfl (Yt (Yc [.agg #[J (cr),vcd],vx,vx] UA (by exact(L1 scd (Ent.drop 1 ecd) sx (Ent.drop 1 ex) sx (Ent.drop 1 ex) (hS) (hx) (hx)))) ?_))
 rintro _ _ ⟨rfl,rfl⟩
 refine Zd (OD.quo rfl rfl rfl (by omega)) rfl ?_
 refine Za rfl (Zn (Zt (GC.ret ?_)))
 exact GE.body [] 1 (Ao rfl rfl) rfl (⟨rfl,rfl⟩)
theorem S2 {W:World}{own:List Asn}{cr:Int}{cd:List Int}{vL:Value}{uL:List Value}{vz:Value}{z:List Int}(sL:Ab vL)(eL:Ent own fun w=>Sl w vL (rSt cr cd).length 1 uL)(mL:∀ k,k<(rSt cr cd).length→Ent own fun w=>Ints w (uL.getD k undef) ((rSt cr cd).getD k []))(lL:uL.length=(rSt cr cd).length)(aL:AllS uL)(sz:Ab vz)(ez:Ent own fun w=>Ints w vz z)(hS:(Ax cr cd).isSome=true)(hz:z∈rSt cr cd)(hno:(∀ j,j<(rSt cr cd).length→(rSt cr cd).contains (lA z (-1) ((rSt cr cd).getD j []))=false)→False):Spec Tryz.prog 177 [vL,vz] W own (fun v ow=>∃ (k0:Nat) (v0:Value),v = .tuple #[(uL.getD k0 undef),v0]∧Ab v0∧(k0<(rSt cr cd).length)∧(∀ j,j<k0→(rSt cr cd).contains (lA z (-1) ((rSt cr cd).getD j []))=false)∧((rSt cr cd).contains (lA z (-1) ((rSt cr cd).getD k0 []))=true)∧ow=ints 3 v0 (Af z (-1) ((rSt cr cd).getD k0 []))::own):=by
 have hRf:(rSt cr cd).length≤30:=by have h1:=(rtOk hS).slen;have h2:=(rtOk hS).few;omega
 have hr4:=(rtOk hS).rk
 have hlo:=(rtOk hS).lo
 have hcr:=(AB hS).1
 have hle:∀ k,k<(rSt cr cd).length→((rSt cr cd).getD k []).length≤1073741824:=fun k hk=>by have:=(Ay hS (Bh hk)).1;omega
 have hlz:=(Ay hS hz).1
 refine Spec.enter Tryz.f177 _ Tryz.func177 rfl (n:=29) rfl rfl ?_
 refine Zs (Zr (Za rfl (Za rfl (Zn (Zt (Zs (Zs (Zr (Za rfl (Zn (Zt (GC.block ?_))))))))))))
 refine Yl (ι:=Nat) (fun k=>[(0,vL),(1,vz),(6,J ((k:Int)))]) (fun k=>own) (fun k=>(k≤(rSt cr cd).length)∧(∀ j,j<k→(rSt cr cd).contains (lA z (-1) ((rSt cr cd).getD j []))=false)) (fun k=>(rSt cr cd).length - k) 0 (⟨by omega,fun j hj=>absurd hj (Nat.not_lt_zero j)⟩) [] 0 ?_
 rintro k ⟨hk,h0⟩
 refine Zs (Zs (Zr (Zm rfl (Zm rfl (Zd (Qn AM eL) rfl ?_)))))
 refine Zd Bb rfl ?_
 refine Zn (Zt ?_)
 refine GC.cond rfl (fun hc1=>?_) (fun hc1=>?_)
 replace hc1:=of_decide_eq_true hc1
 refine Zk (Zt (Zs (GC.block (Zs (Zr ?_)))))
 refine Zm rfl (Zm rfl (Zm rfl (Zd (Qi AM eL) rfl ?_)))
 refine Zd (OD.loadElem rfl AH rfl eL (by omega) rfl) rfl ?_
 refine Yt (Yc [vz,J (-1),(uL.getD (k) undef)] LI (by exact(Eg sz ez (aL.get (by omega)) ((mL (k) (by omega))) (by omega) (by have:=(Ay hS (Bh (show k<(rSt cr cd).length by omega))).1;omega)))) ?_
 rintro v2 _ ⟨_,rfl,hs3,rfl⟩
 refine Za rfl (Zn (Zt (Zs (Zr (Zm rfl (Zm rfl (Yt (Yc [vL,v2] Hd (by exact(Cw sL (Ent.drop 1 eL) (fun k hk=>(Ent.drop 1 (mL k hk))) lL aL hs3 (Ei 0) (by omega) (hle)))) ?_)))))))
 rintro _ _ ⟨rfl,rfl⟩
 refine Zd (OD.geq rfl rfl rfl) rfl ?_
 refine Zn (Zt ?_)
 refine GC.cond rfl (fun hc4=>?_) (fun hc4=>?_)
 replace hc4:=of_decide_eq_true hc4
 refine Zs (Zr (Zm rfl (Zm rfl (Zd (Qi AM (Ent.drop 1 eL)) rfl ?_))))
 refine Zd (OD.loadElem rfl AH rfl (Ent.drop 1 eL) (by omega) rfl) rfl ?_
 refine Zm rfl (Za rfl (Za rfl (Zn (Zt (GC.ret (GE.blockR (GE.passR (GE.passR (GE.blockR (GE.passR ?_))))))))))
 exact GE.body [] 0 (Pa rfl rfl rfl) rfl (⟨k,v2,rfl,(hs3),(by omega),(h0),((fv hS hz (by omega)).symm.trans (decide_eq_true hc4)),rfl⟩)
 replace hc4:=of_decide_eq_false hc4
 refine Zk (GE.blockN (Zt (Zr ?_)))
 refine Zm rfl (Zd Qp rfl ?_)
 exact Za rfl (Zn (Yg (k+1) (⟨by omega,fun j hj=>(Nat.lt_succ_iff_lt_or_eq.1 hj).elim (h0 j) (fun e=>by rw[e];exact(fv hS hz (by omega)).symm.trans (decide_eq_false hc4))⟩) [] 1))
 replace hc1:=of_decide_eq_false hc1
 exact(hno fun j hj=>h0 j (by omega)).elim
theorem Nd {W:World}{own:List Asn}{gm:Nat}{vdn vvl:Value}{cr:Int}{vcd:Value}{cd:List Int}{vL:Value}{uL:List Value}{vx:Value}{x:List Int}{vy:Value}{y:List Int}{vz:Value}(scd:Ab vcd)(ecd:Ent own fun w=>Ints w vcd cd)(sL:Ab vL)(eL:Ent own fun w=>Sl w vL (rSt cr cd).length 1 uL)(mL:∀ k,k<(rSt cr cd).length→Ent own fun w=>Ints w (uL.getD k undef) ((rSt cr cd).getD k []))(lL:uL.length=(rSt cr cd).length)(aL:AllS uL)(sdn:Ab vdn)(svl:Ab vvl)(sx:Ab vx)(ex:Ent own fun w=>Ints w vx x)(sy:Ab vy)(ey:Ent own fun w=>Ints w vy y)(sz:Ab vz)(ez:Ent own fun w=>Ints w vz (Af x 1 y)){f:Nat}(hS:(Ax cr cd).isSome=true)(hx:x∈rSt cr cd)(hy:y∈rSt cr cd)(hz:Af x 1 y∈rSt cr cd)(hm:4*(sP x+sP y).natAbs≤f)(ih:∀ {W:World} {own:List Asn} {gm:Nat} {vdn vvl:Value} {cr:Int} {vcd:Value} {cd:List Int} {vL:Value} {uL:List Value} {vx:Value} {x:List Int} {vy:Value} {y:List Int} (scd:Ab vcd) (ecd:Ent own fun w=>Ints w vcd cd) (sL:Ab vL) (eL:Ent own fun w=>Sl w vL (rSt cr cd).length 1 uL) (mL:∀ k,k<(rSt cr cd).length→Ent own fun w=>Ints w (uL.getD k undef) ((rSt cr cd).getD k [])) (lL:uL.length=(rSt cr cd).length) (aL:AllS uL) (sdn:Ab vdn) (svl:Ab vvl) (sx:Ab vx) (ex:Ent own fun w=>Ints w vx x) (sy:Ab vy) (ey:Ent own fun w=>Ints w vy y) (hS:(Ax cr cd).isSome=true) (hx:rtB (rSt cr cd) x=true) (hy:rtB (rSt cr cd) y=true) (hm:CQ x y<f),Spec Tryz.prog 92 [Pg gm 0,vx,vy] W (box gm 147 [J (cr),vcd,vL,vdn,vvl]::memS 4 3 vdn vvl cr cd::own) (fun v ow=>v=J (nF cr cd x y)∧ow=box gm 147 [J (cr),vcd,vL,vdn,vvl]::memS 4 3 vdn vvl cr cd::own)):Spec Tryz.prog 149 [Pg gm 0,vx,vy,vz] W (box gm 147 [J (cr),vcd,vL,vdn,vvl]::memS 4 3 vdn vvl cr cd::own) (fun v ow=>v=J (nF cr cd x y)∧ow=box gm 147 [J (cr),vcd,vL,vdn,vvl]::memS 4 3 vdn vvl cr cd::own):=by
 have hRf:(rSt cr cd).length≤30:=by have h1:=(rtOk hS).slen;have h2:=(rtOk hS).few;omega
 have hr4:=(rtOk hS).rk
 have hlo:=(rtOk hS).lo
 have hcr:=(AB hS).1
 have hle:∀ k,k<(rSt cr cd).length→((rSt cr cd).getD k []).length≤1073741824:=fun k hk=>by have:=(Ay hS (Bh hk)).1;omega
 have hl1:=(Ay hS hx).1
 have hl2:=(Ay hS hy).1
 have hlz:=(Ay hS hz).1
 have hm4:=AQ x 1 y
 have hcd:=(AB hS).2
 refine Spec.enter Tryz.f149 _ Tryz.func149 rfl (n:=108) rfl rfl ?_
 refine Zs (Zr (Za rfl (Zn (Zt (Zs (Zr (Zm rfl (Zd (OD.nilCheck rfl rfl) rfl ?_))))))))
 refine Zd (Qf Qj) rfl ?_
 refine Zd (Qa An 0 [_,_]) rfl ?_
 refine Yt (OG.alloc rfl An (zs:=[J (0),.slice none 0 0]) rfl) ?_
 rintro _ _ ⟨g1,rfl,rfl⟩
 refine Yu An [J (cr),vcd] 0 (Ad rfl (Ad (Ab.one scd) rfl)) ?_
 refine Zn (Zt (Zs (Zr (Zm rfl (Zd (OD.nilCheck rfl rfl) rfl ?_)))))
 refine Zd (Qf P8) rfl ?_
 refine Zd (Ql DZ 1) rfl ?_
 refine Za rfl (Zn (Zt (Zs (Zr (Zm rfl (Zm rfl (Yt (Yc [vL,vz] cV (by exact(S2 sL (Ent.drop 3 eL) (fun k hk=>(Ent.drop 3 (mL k hk))) lL aL sz (Ent.drop 3 ez) (cr:=cr) (cd:=cd) (hS) (hz) (fun h=>UO hS hx hy hz h)))) ?_)))))))
 rintro _ _ ⟨g2,v3,rfl,hs4,hs5,hs6,hs7,rfl⟩
 obtain⟨p,hF⟩:=ZQ hS hz hs5 hs6 hs7
 have hp3:=hF.hp
 have hRk:g2<uL.length:=by omega
 have hlr:=(Ay hS hF.hr).1
 have hls:=(Ay hS hF.hs).1
 have hfm:=eU hS hx hy hF hm
 have hmr:=AC ((rSt cr cd).getD g2 [])
 have h10r:=(Aw hS (Au hF.hr)).2.1
 have h10s:=(Aw hS (Au hF.hs)).2.1
 have hir:=aL.get hRk
 skip
 refine Zm rfl (Zd (OD.extract rfl rfl rfl) rfl ?_)
 refine Zd (OD.extract rfl rfl rfl) rfl ?_
 refine Za rfl (Za rfl (Zn (Zt (Zs (Zr (Zm rfl (Zm rfl (Zm rfl (Yt (Yc [(uL.getD g2 undef)] EE (by exact(BA hir (Ent.drop 4 (mL (g2) (by omega))) (fun j _=>by have:=h10r j;omega) (by omega)))) ?_)))))))))
 rintro v8 _ ⟨_,rfl,hs9,rfl⟩
 refine Yt (Yc [vL,v3,v8] bV (by exact(Xt sL (Ent.drop 5 eL) (fun k hk=>(Ent.drop 5 (mL k hk))) lL aL hs4 (Ei 1) hs9 (Ei 0) (by omega) (hle) (by omega) (by omega) (h10s) (Uf h10r) (PS hS (Au hF.hs) (Au hF.hr) (DF hS (Au hF.hs)) (by omega))))) ?_
 rintro _ _ ⟨rfl,rfl⟩
 refine Zd (OD.eqv Ha (congrArg (Value.int .i64) ((by rw[hF.runS,Aj (by omega) (by omega)]):(IntKind.i64.wrap ((FH (fun(m:Nat)=>rtB (rSt cr cd) (Af (Af (Af x 1 y) (-1) ((rSt cr cd).getD g2 [])) (m:Int) (Av ((rSt cr cd).getD (g2) [])))) 40 0:Nat)+1):Int)=((p:Int)+1)))) rfl ?_
 refine Za rfl (Zn (Zt (Zs (Zs (Zr (Zm rfl (Zm rfl (Yt (Yc [vx,(uL.getD g2 undef)] MR (by exact(F9 sx (Ent.drop 5 ex) hir (Ent.drop 5 (mL (g2) (by omega))) (by omega)))) ?_))))))))
 rintro _ _ ⟨rfl,rfl⟩
 refine Zn (Zt ?_)
 refine GC.cond rfl (fun hc10=>?_) (fun hc10=>?_)
 refine Zs (Zr (Zm rfl (Za rfl (Zn (Zt (GC.ret (GE.passR ?_)))))))
 exact GE.body [3,3] 3 (Ao rfl rfl) rfl (⟨congrArg (fun a0=>(J (a0):Value)) ((fs_1 hS hx hy hF hc10:((p:Int)+1:Int)=nF cr cd x y)),rfl⟩)
 refine Zk (Zt (Zs (Zs (Zr (Zm rfl (Zm rfl (Yt (Yc [vy,(uL.getD g2 undef)] MR (by exact(F9 sy (Ent.drop 5 ey) hir (Ent.drop 5 (mL (g2) (by omega))) (by omega)))) ?_)))))))
 rintro _ _ ⟨rfl,rfl⟩
 refine Zn (Zt ?_)
 refine GC.cond rfl (fun hc11=>?_) (fun hc11=>?_)
 refine Zs (Zr (Zm rfl (Zd (OD.sub rfl rfl rfl) rfl ?_)))
 refine Za rfl (Zn (Zt (GC.ret (GE.passR ?_))))
 exact GE.body [3,3] 3 (Ao rfl rfl) rfl (⟨congrArg (fun a0=>(J (a0):Value)) ((fs_2 hS hx hy hF hc10 hc11:(IntKind.i64.wrap (0 - ((p:Int)+1)):Int)=nF cr cd x y)),rfl⟩)
 refine Zk (Zt (Zs (Zr (Zm rfl (Yt (Yc [(uL.getD g2 undef)] EE (by exact(BA hir (Ent.drop 5 (mL (g2) (by omega))) (fun j _=>by have:=h10r j;omega) (by omega)))) ?_)))))
 rintro v12 _ ⟨_,rfl,hs13,rfl⟩
 refine Za rfl (Zn (Zt (Zs (Zr (Zm rfl (Yt (Yc [v3] EE (by exact(BA hs4 (Ei 2) (fun j _=>by have:=h10s j;omega) (by omega)))) ?_))))))
 rintro v14 _ ⟨_,rfl,hs15,rfl⟩
 refine Za rfl (Zn (Zt (Zs (Zr (Zm rfl (Zm rfl (Yt (Yc [vy,J (-1),(uL.getD g2 undef)] LI (by exact(Eg sy (Ent.drop 7 ey) hir (Ent.drop 7 (mL (g2) (by omega))) (by omega) (by omega)))) ?_)))))))
 rintro v16 _ ⟨_,rfl,hs17,rfl⟩
 refine Za rfl (Zn (Zt (Zs (Zr (Zm rfl (Zm rfl (Yt (Yc [vx,J (-1),(uL.getD g2 undef)] LI (by exact(Eg sx (Ent.drop 8 ex) hir (Ent.drop 8 (mL (g2) (by omega))) (by omega) (by omega)))) ?_)))))))
 rintro v18 _ ⟨_,rfl,hs19,rfl⟩
 refine Za rfl (Zn (Zt (Zs (Zr (Za rfl (Zn (Zt (Zs (Zr (Za rfl (Zn (Zt (Zs (Zr (Za rfl (Zn (Zt (Zs (Zr (Za rfl (Zn (Zt (Zs (Zs (Zr (Zm rfl (Zm rfl (Yt (Yc [vL,v16] N1 (by exact(Ds sL (Ent.drop 9 eL) (fun k hk=>(Ent.drop 9 (mL k hk))) lL aL hs17 (Ei 1) (by omega) (hle) (Lr hS (.inr rfl) (Au hy) (Au hF.hr)) (by rw[AQ];omega)))) ?_))))))))))))))))))))))))))))
 rintro _ _ ⟨rfl,rfl⟩
 refine Zn (Zt ?_)
 refine GC.cond rfl (fun hc20=>?_) (fun hc20=>?_)
 refine Zs (Zr (Zd (Qa An 6 [_,_]) rfl ?_))
 refine Zm rfl (Yt (Yc [.agg #[J (cr),vcd],v16] Dw (by exact(B9 scd (Ent.drop 9 ecd) hs17 (Ei 1) (hS) (by rw[AQ];omega)))) ?_)
 rintro _ _ ⟨rfl,rfl⟩
 refine Za rfl (Zn (Zt (Zr (Zm rfl (Zm rfl (Zm rfl (Yt (Yc [Pg gm 0,vy,v12] E7 (by exact(Spec.atIdx2 (i:=7) (j:=7) rfl rfl (ih scd (Ent.drop 7 ecd) sL (Ent.drop 7 eL) (fun k hk=>(Ent.drop 7 (mL k hk))) lL aL sdn svl sy (Ent.drop 7 ey) hs13 (Ei 3) (hS) (Au hy) (B6 hF.hr) (hfm.1))))) ?_)))))))
 rintro _ _ ⟨rfl,rfl⟩
 refine Zm rfl (Zm rfl (Zm rfl (Yt (Yc [Pg gm 0,vx,v14] E7 (by exact(Spec.atIdx2 (i:=7) (j:=7) rfl rfl (ih scd (Ent.drop 7 ecd) sL (Ent.drop 7 eL) (fun k hk=>(Ent.drop 7 (mL k hk))) lL aL sdn svl sx (Ent.drop 7 ex) hs15 (Ei 2) (hS) (Au hx) (B6 hF.hs) (hfm.2.1))))) ?_)))
 rintro _ _ ⟨rfl,rfl⟩
 refine Zd CN rfl ?_
 refine Za rfl (Zn (Zt (Zs (Zs (Zr (Zm rfl (Zm rfl (Yt (Yc [vL,v18] N1 (by exact(Ds sL (Ent.drop 9 eL) (fun k hk=>(Ent.drop 9 (mL k hk))) lL aL hs19 (Ei 0) (by omega) (hle) (Lr hS (.inr rfl) (Au hx) (Au hF.hr)) (by rw[AQ];omega)))) ?_))))))))
 rintro _ _ ⟨rfl,rfl⟩
 refine Zn (Zt ?_)
 refine GC.cond rfl (fun hc21=>?_) (fun hc21=>?_)
 refine Zs (Zr (Zd (Qa An 6 [_,_]) rfl ?_))
 refine Zm rfl (Yt (Yc [.agg #[J (cr),vcd],v18] Dw (by exact(B9 scd (Ent.drop 9 ecd) hs19 (Ei 0) (hS) (by rw[AQ];omega)))) ?_)
 rintro _ _ ⟨rfl,rfl⟩
 refine Za rfl (Zn (Zt (Zr (Zm rfl (Zm rfl (Zm rfl (Yt (Yc [Pg gm 0,v12,vx] E7 (by exact(Spec.atIdx2 (i:=7) (j:=7) rfl rfl (ih scd (Ent.drop 7 ecd) sL (Ent.drop 7 eL) (fun k hk=>(Ent.drop 7 (mL k hk))) lL aL sdn svl hs13 (Ei 3) sx (Ent.drop 7 ex) (hS) (B6 hF.hr) (Au hx) (hfm.2.2.1))))) ?_)))))))
 rintro _ _ ⟨rfl,rfl⟩
 refine Zm rfl (Zm rfl (Zm rfl (Yt (Yc [Pg gm 0,vy,v14] E7 (by exact(Spec.atIdx2 (i:=7) (j:=7) rfl rfl (ih scd (Ent.drop 7 ecd) sL (Ent.drop 7 eL) (fun k hk=>(Ent.drop 7 (mL k hk))) lL aL sdn svl sy (Ent.drop 7 ey) hs15 (Ei 2) (hS) (Au hy) (B6 hF.hs) (hfm.2.2.2))))) ?_)))
 rintro _ _ ⟨rfl,rfl⟩
 refine Zd CN rfl ?_
 refine Za rfl (Zn (Zt (Zs (Zr (Zd (Qa An 6 [_,_]) rfl ?_)))))
 refine Zm rfl (Yt (Yc [.agg #[J (cr),vcd],vz] Dw (by exact(B9 scd (Ent.drop 9 ecd) sz (Ent.drop 9 ez) (hS) (by rw[AQ];omega)))) ?_)
 rintro _ _ ⟨rfl,rfl⟩
 refine Zm rfl (Zm rfl (Zd CN rfl ?_))
 refine Zm rfl (Zm rfl (Zd CN rfl ?_))
 refine Zd Ha rfl ?_
 refine Zd CN rfl ?_
 refine Zm rfl (Zm rfl (Zd CN rfl ?_))
 refine Zm rfl (Zd CN rfl ?_)
 refine Zd (OD.quo rfl rfl rfl (Qg hS (EU hS hc20) (EU hS hc21) hp3)) rfl ?_
 refine Za rfl (Zn (Zt (GC.ret ?_)))
 exact GE.body [7,7] 7 (Ao rfl rfl) rfl (⟨congrArg (fun a0=>(J (a0):Value)) ((YQ hS hx hy hz hF hc10 hc11 (Mr hS (Au hy) (B6 hF.hr) (Au hx) (B6 hF.hs) hc20) (Mr hS (B6 hF.hr) (Au hx) (Au hy) (B6 hF.hs) hc21) (EU hS hc20) (EU hS hc21):(IntKind.i64.wrap ((IntKind.i64.wrap ((Dm cr cd (Af x 1 y))*(IntKind.i64.wrap ((IntKind.i64.wrap ((IntKind.i64.wrap ((nF cr cd y (Av ((rSt cr cd).getD (g2) [])))*(nF cr cd x (Av (Af (Af x 1 y) (-1) ((rSt cr cd).getD g2 []))))))*(Dm cr cd (Af x (-1) ((rSt cr cd).getD (g2) [])))))+(IntKind.i64.wrap ((IntKind.i64.wrap ((nF cr cd (Av ((rSt cr cd).getD (g2) [])) x)*(nF cr cd y (Av (Af (Af x 1 y) (-1) ((rSt cr cd).getD g2 []))))))*(Dm cr cd (Af y (-1) ((rSt cr cd).getD (g2) []))))))))).tdiv (IntKind.i64.wrap ((IntKind.i64.wrap ((Dm cr cd (Af y (-1) ((rSt cr cd).getD (g2) [])))*(Dm cr cd (Af x (-1) ((rSt cr cd).getD (g2) [])))))*((p:Int)+1)))):Int)=nF cr cd x y)),rfl⟩)
 refine Zk (Zt (Zs (Zr (Zd (Qa An 6 [_,_]) rfl ?_))))
 refine Zm rfl (Yt (Yc [.agg #[J (cr),vcd],vz] Dw (by exact(B9 scd (Ent.drop 9 ecd) sz (Ent.drop 9 ez) (hS) (by rw[AQ];omega)))) ?_)
 rintro _ _ ⟨rfl,rfl⟩
 refine Zm rfl (Zm rfl (Zd CN rfl ?_))
 refine Zm rfl (Zm rfl (Zd CN rfl ?_))
 refine Zd Ha rfl ?_
 refine Zd CN rfl ?_
 refine Zm rfl (Zm rfl (Zd CN rfl ?_))
 refine Zm rfl (Zd CN rfl ?_)
 refine Zd (OD.quo rfl rfl rfl (Qg hS (EU hS hc20) (Hp hc21) hp3)) rfl ?_
 refine Za rfl (Zn (Zt (GC.ret ?_)))
 exact GE.body [7,7] 7 (Ao rfl rfl) rfl (⟨congrArg (fun a0=>(J (a0):Value)) ((YQ hS hx hy hz hF hc10 hc11 (Mr hS (Au hy) (B6 hF.hr) (Au hx) (B6 hF.hs) hc20) (QB hc21) (EU hS hc20) (Hp hc21):(IntKind.i64.wrap ((IntKind.i64.wrap ((Dm cr cd (Af x 1 y))*(IntKind.i64.wrap ((IntKind.i64.wrap ((IntKind.i64.wrap ((nF cr cd y (Av ((rSt cr cd).getD (g2) [])))*(nF cr cd x (Av (Af (Af x 1 y) (-1) ((rSt cr cd).getD g2 []))))))*1))+(IntKind.i64.wrap (0*(Dm cr cd (Af y (-1) ((rSt cr cd).getD (g2) []))))))))).tdiv (IntKind.i64.wrap ((IntKind.i64.wrap ((Dm cr cd (Af y (-1) ((rSt cr cd).getD (g2) [])))*1))*((p:Int)+1)))):Int)=nF cr cd x y)),rfl⟩)
 refine Zk (Zt (Zs (Zs (Zr (Zm rfl (Zm rfl (Yt (Yc [vL,v18] N1 (by exact(Ds sL (Ent.drop 9 eL) (fun k hk=>(Ent.drop 9 (mL k hk))) lL aL hs19 (Ei 0) (by omega) (hle) (Lr hS (.inr rfl) (Au hx) (Au hF.hr)) (by rw[AQ];omega)))) ?_)))))))
 rintro _ _ ⟨rfl,rfl⟩
 refine Zn (Zt ?_)
 refine GC.cond rfl (fun hc22=>?_) (fun hc22=>?_)
 refine Zs (Zr (Zd (Qa An 6 [_,_]) rfl ?_))
 refine Zm rfl (Yt (Yc [.agg #[J (cr),vcd],v18] Dw (by exact(B9 scd (Ent.drop 9 ecd) hs19 (Ei 0) (hS) (by rw[AQ];omega)))) ?_)
 rintro _ _ ⟨rfl,rfl⟩
 refine Za rfl (Zn (Zt (Zr (Zm rfl (Zm rfl (Zm rfl (Yt (Yc [Pg gm 0,v12,vx] E7 (by exact(Spec.atIdx2 (i:=7) (j:=7) rfl rfl (ih scd (Ent.drop 7 ecd) sL (Ent.drop 7 eL) (fun k hk=>(Ent.drop 7 (mL k hk))) lL aL sdn svl hs13 (Ei 3) sx (Ent.drop 7 ex) (hS) (B6 hF.hr) (Au hx) (hfm.2.2.1))))) ?_)))))))
 rintro _ _ ⟨rfl,rfl⟩
 refine Zm rfl (Zm rfl (Zm rfl (Yt (Yc [Pg gm 0,vy,v14] E7 (by exact(Spec.atIdx2 (i:=7) (j:=7) rfl rfl (ih scd (Ent.drop 7 ecd) sL (Ent.drop 7 eL) (fun k hk=>(Ent.drop 7 (mL k hk))) lL aL sdn svl sy (Ent.drop 7 ey) hs15 (Ei 2) (hS) (Au hy) (B6 hF.hs) (hfm.2.2.2))))) ?_)))
 rintro _ _ ⟨rfl,rfl⟩
 refine Zd CN rfl ?_
 refine Za rfl (Zn (Zt (Zs (Zr (Zd (Qa An 6 [_,_]) rfl ?_)))))
 refine Zm rfl (Yt (Yc [.agg #[J (cr),vcd],vz] Dw (by exact(B9 scd (Ent.drop 9 ecd) sz (Ent.drop 9 ez) (hS) (by rw[AQ];omega)))) ?_)
 rintro _ _ ⟨rfl,rfl⟩
 refine Zm rfl (Zm rfl (Zd CN rfl ?_))
 refine Zm rfl (Zm rfl (Zd CN rfl ?_))
 refine Zd Ha rfl ?_
 refine Zd CN rfl ?_
 refine Zm rfl (Zm rfl (Zd CN rfl ?_))
 refine Zm rfl (Zd CN rfl ?_)
 refine Zd (OD.quo rfl rfl rfl (Qg hS (Hp hc20) (EU hS hc22) hp3)) rfl ?_
 refine Za rfl (Zn (Zt (GC.ret ?_)))
 exact GE.body [7,7] 7 (Ao rfl rfl) rfl (⟨congrArg (fun a0=>(J (a0):Value)) ((YQ hS hx hy hz hF hc10 hc11 (QB hc20) (Mr hS (B6 hF.hr) (Au hx) (Au hy) (B6 hF.hs) hc22) (Hp hc20) (EU hS hc22):(IntKind.i64.wrap ((IntKind.i64.wrap ((Dm cr cd (Af x 1 y))*(IntKind.i64.wrap ((IntKind.i64.wrap (0*(Dm cr cd (Af x (-1) ((rSt cr cd).getD (g2) [])))))+(IntKind.i64.wrap ((IntKind.i64.wrap ((nF cr cd (Av ((rSt cr cd).getD (g2) [])) x)*(nF cr cd y (Av (Af (Af x 1 y) (-1) ((rSt cr cd).getD g2 []))))))*1)))))).tdiv (IntKind.i64.wrap ((IntKind.i64.wrap (1*(Dm cr cd (Af x (-1) ((rSt cr cd).getD (g2) [])))))*((p:Int)+1)))):Int)=nF cr cd x y)),rfl⟩)
 refine Zk (Zt (Zs (Zr (Zd (Qa An 6 [_,_]) rfl ?_))))
 refine Zm rfl (Yt (Yc [.agg #[J (cr),vcd],vz] Dw (by exact(B9 scd (Ent.drop 9 ecd) sz (Ent.drop 9 ez) (hS) (by rw[AQ];omega)))) ?_)
 rintro _ _ ⟨rfl,rfl⟩
 refine Zm rfl (Zm rfl (Zd CN rfl ?_))
 refine Zm rfl (Zm rfl (Zd CN rfl ?_))
 refine Zd Ha rfl ?_
 refine Zd CN rfl ?_
 refine Zm rfl (Zm rfl (Zd CN rfl ?_))
 refine Zm rfl (Zd CN rfl ?_)
 refine Zd (OD.quo rfl rfl rfl (Qg hS (Hp hc20) (Hp hc22) hp3)) rfl ?_
 refine Za rfl (Zn (Zt (GC.ret ?_)))
 exact GE.body [7,7] 7 (Ao rfl rfl) rfl (⟨congrArg (fun a0=>(J (a0):Value)) ((YQ hS hx hy hz hF hc10 hc11 (QB hc20) (QB hc22) (Hp hc20) (Hp hc22):(IntKind.i64.wrap ((IntKind.i64.wrap ((Dm cr cd (Af x 1 y))*(IntKind.i64.wrap ((IntKind.i64.wrap (0*1))+(IntKind.i64.wrap (0*1)))))).tdiv (IntKind.i64.wrap ((IntKind.i64.wrap (1*1))*((p:Int)+1)))):Int)=nF cr cd x y)),rfl⟩)
theorem Ue (f:Nat):∀ {W:World} {own:List Asn} {gm:Nat} {vdn vvl:Value} {cr:Int} {vcd:Value} {cd:List Int} {vL:Value} {uL:List Value} {vx:Value} {x:List Int} {vy:Value} {y:List Int} (scd:Ab vcd) (ecd:Ent own fun w=>Ints w vcd cd) (sL:Ab vL) (eL:Ent own fun w=>Sl w vL (rSt cr cd).length 1 uL) (mL:∀ k,k<(rSt cr cd).length→Ent own fun w=>Ints w (uL.getD k undef) ((rSt cr cd).getD k [])) (lL:uL.length=(rSt cr cd).length) (aL:AllS uL) (sdn:Ab vdn) (svl:Ab vvl) (sx:Ab vx) (ex:Ent own fun w=>Ints w vx x) (sy:Ab vy) (ey:Ent own fun w=>Ints w vy y) (hS:(Ax cr cd).isSome=true) (hx:rtB (rSt cr cd) x=true) (hy:rtB (rSt cr cd) y=true) (hm:CQ x y<f),Spec Tryz.prog 92 [Pg gm 0,vx,vy] W (box gm 147 [J (cr),vcd,vL,vdn,vvl]::memS 4 3 vdn vvl cr cd::own) (fun v ow=>v=J (nF cr cd x y)∧ow=box gm 147 [J (cr),vcd,vL,vdn,vvl]::memS 4 3 vdn vvl cr cd::own):=by
 induction f with
 | zero =>
   intro W own gm vdn vvl cr vcd cd vL uL vx x vy y scd ecd sL eL mL lL aL sdn svl sx ex sy ey hS hx hy hm
   omega
 | succ f ih =>
  intro W own gm vdn vvl cr vcd cd vL uL vx x vy y scd ecd sL eL mL lL aL sdn svl sx ex sy ey hS hx hy hm
  have hRf:(rSt cr cd).length≤30:=by have h1:=(rtOk hS).slen;have h2:=(rtOk hS).few;omega
  have hr4:=(rtOk hS).rk
  have hlo:=(rtOk hS).lo
  have hcr:=(AB hS).1
  have hle:∀ k,k<(rSt cr cd).length→((rSt cr cd).getD k []).length≤1073741824:=fun k hk=>by have:=(Ay hS (Bh hk)).1;omega
  have hl1:=(Aw hS hx).1
  have hl2:=(Aw hS hy).1
  have h10x:=(Aw hS hx).2.1
  have h10y:=(Aw hS hy).2.1
  have hm4:=AQ x 1 y
  have hcd:=(AB hS).2
  refine Spec.enter Tryz.f92 _ Tryz.func92 rfl (n:=130) rfl rfl ?_
  refine Zs (Zr (Za rfl (Zn (Zt (Zs (Zr (Zm rfl (Zd (OD.nilCheck rfl rfl) rfl ?_))))))))
  refine Zd (Qf Qj) rfl ?_
  refine Zd (Qa An 0 [_,_]) rfl ?_
  refine Yt (OG.alloc rfl An (zs:=[J (0),.slice none 0 0]) rfl) ?_
  rintro _ _ ⟨g1,rfl,rfl⟩
  refine Yu An [J (cr),vcd] 0 (Ad rfl (Ad (Ab.one scd) rfl)) ?_
  refine Zn (Zt (Zs (Zr (Zm rfl (Zd (OD.nilCheck rfl rfl) rfl ?_)))))
  refine Zd (Qf P8) rfl ?_
  refine Zd (Ql DZ 1) rfl ?_
  refine Za rfl (Zn (Zt (Zs (Zr (Zm rfl (Zm rfl (Yt (Yc [vx,J (1),vy] LI (by exact(Eg sx (Ent.drop 3 ex) sy (Ent.drop 3 ey) (by omega) (by omega)))) ?_)))))))
  rintro v2 _ ⟨_,rfl,hs3,rfl⟩
  refine Za rfl (Zn (Zt (Zs (Zs (Zr (Zm rfl (Zm rfl (Yt (Yc [vL,v2] N1 (by exact(Ds sL (Ent.drop 4 eL) (fun k hk=>(Ent.drop 4 (mL k hk))) lL aL hs3 (Ei 0) (by omega) (hle) (Lr hS (.inl rfl) hx hy) (by omega)))) ?_))))))))
  rintro _ _ ⟨rfl,rfl⟩
  refine Zd (OD.not rfl rfl) rfl ?_
  refine Zn (Zt ?_)
  refine GC.cond rfl (fun hc4=>?_) (fun hc4=>?_)
  replace hc4:=Ai hc4
  refine Zs (Zr (Za rfl (Zn (Zt (GC.ret (GE.passR ?_))))))
  skip
  exact GE.body [2,2] 2 (Ao rfl rfl) rfl (⟨congrArg (fun a0=>(J (a0):Value)) ((of_no hS hx hy hc4:(0:Int)=nF cr cd x y)),rfl⟩)
  replace hc4:=Am hc4
  have hz:rtB (rSt cr cd) (Af x 1 y)=true:=hc4
  refine Zk (Zt (Zs (Zr (Zm rfl (Yt (Yc [vx] Q0 (by exact(Dg sx (Ent.drop 4 ex) (by omega)))) ?_)))))
  rintro _ _ ⟨rfl,rfl⟩
  refine Za rfl (Zn (Zt (Zs (Zr (Zm rfl (Yt (Yc [vy] Q0 (by exact(Dg sy (Ent.drop 4 ey) (by omega)))) ?_))))))
  rintro _ _ ⟨rfl,rfl⟩
  refine Za rfl (Zn (Zt (Zs (GC.block (Zs (Zr ?_))))))
  refine Zm rfl (Zm rfl ?_)
  rcases Bool.eq_false_or_eq_true (EJ x) with hg5 | hg5
  have hg5e:=hg5
  rw[hg5e]
  refine Yd (OD.move rfl rfl) ?_
  refine Zd (OD.pickT rfl rfl rfl) rfl ?_
  refine Za rfl (Zn (Zt ?_))
  refine GC.cond rfl (fun hc6=>?_) (fun hc6=>?_)
  refine Zs ?_
  obtain⟨hxm,hym,hzm⟩:=RM hS hx hy hz (Hy hS hx hg5e) (Hy hS hy hc6)
  obtain⟨q,hq⟩:∃ q:Nat,q=(plF (rSt cr cd) x).toNat*(rSt cr cd).length+(plF (rSt cr cd) y).toNat:=⟨_,rfl⟩
  obtain⟨hqe,hql⟩:=fD hS hxm hym hq
  refine Zr (Zm rfl (Zm rfl (Yt (Yc [vL,vx] Hd (by exact(Cw sL (Ent.drop 4 eL) (fun k hk=>(Ent.drop 4 (mL k hk))) lL aL sx (Ent.drop 4 ex) (by omega) (hle)))) ?_)))
  rintro _ _ ⟨rfl,rfl⟩
  refine Zm rfl (Zd (Qn AM (Ent.drop 4 eL)) rfl ?_)
  refine Zd CN rfl ?_
  refine Zm rfl (Zm rfl (Yt (Yc [vL,vy] Hd (by exact(Cw sL (Ent.drop 4 eL) (fun k hk=>(Ent.drop 4 (mL k hk))) lL aL sy (Ent.drop 4 ey) (by omega) (hle)))) ?_))
  rintro _ _ ⟨rfl,rfl⟩
  refine Zd (OD.eqv Ha (congrArg (Value.int .i64) ((hqe):(IntKind.i64.wrap ((IntKind.i64.wrap ((plF (rSt cr cd) x)*((rSt cr cd).length:Nat)))+(plF (rSt cr cd) y)):Int)=((q:Int))))) rfl ?_
  refine Za rfl (Zn (Zt (Zs (Zs (Yq [3,0,0,0] (_::_::_::_::own) ?_)))))
  refine GC.mesOpen fun dmm7 vmm7 hmm7=>?_
  have hmm7d:=hmm7.1
  have hmm7v:=hmm7.2.1
  refine Zr (Zm rfl (Zd (OD.nilCheck rfl rfl) rfl ?_))
  refine Zd (Qf Ra) rfl ?_
  refine Zd (Ql aw 4) rfl ?_
  refine Zm rfl (Zd (Qi To (Ent.bls (i:=0) rfl)) rfl ?_)
  refine Zd (OD.loadBool rfl gK rfl (Ent.bls (i:=0) rfl) (by omega)) rfl ?_
  refine Zd (OD.not rfl rfl) rfl ?_
  refine Zn (Zt ?_)
  refine GC.cond rfl (fun hc8=>?_) (fun hc8=>?_)
  replace hc8:=Ai hc8
  refine Zs (GC.mesClose (n:=cr) (d:=cd) (hmm7) ?_)
  refine Ya [(0,_),(1,_),(2,_),(9,_),(12,_)] ?_
  refine Wp [Z0 55 (Pg gm 0),Z1 56 [(0,55)] (Pg gm 0),Z1 57 [(1,56)] (Pg gm 4),Z1 58 [(2,57)] vvl,Z0 59 (J ((q:Int))),Z0 60 (Pg gm 0),Z0 61 vx,Z0 62 vy,Z0 63 v2,Z1 64 [(5,60),(6,61),(7,62),(8,63)] (J (nF cr cd x y)),Z1 65 [(3,58),(4,59)] (Aa vvl 1 (q))] (Yv (Zc (fun _ _ _=>Zq (OD.nilCheck rfl rfl) rfl) (Zc (fun _ _ _=>Zq (Qf Mp) rfl) (Zc (fun _ _ _=>Zq (Ql AH 3) rfl) (Yv (Yv (Yv (Yv (Yv (Zc (fun _ _ _=>Zq (Yc [Pg gm 0,vx,vy,v2] c8 (by exact(Spec.atIdx2 (i:=3) (j:=0) rfl rfl (Nd scd (Ent.drop 2 ecd.app) sL (Ent.drop 2 eL.app) (fun k hk=>(Ent.drop 2 ((mL k hk).app))) lL aL sdn svl sx (Ent.drop 2 ex.app) sy (Ent.drop 2 ey.app) hs3 (Ei 0) (hS) (hxm) (hym) (hzm) (ew (Hy hS hx hg5e) (Hy hS hy hc6) hm) (@ih))))) rfl) (Zc (fun _ _ _=>Zq (OD.indexAddrE rfl Ac rfl (Ent.mes (i:=0) rfl) rfl (by omega)) rfl) As.nil))))))))))) ?_
  intro θ _
  refine Yb [(0,_),(12,_),(64,J (nF cr cd x y)),(65,Aa vvl 1 (q))] (_::_) ?_
  show G _ _ _ [_] _ _ _ _
  refine G.mesOpen fun dmm9 vmm9 hmm9=>?_
  have hmm9d:=hmm9.1
  have hmm9v:=hmm9.2.1
  skip
  refine G.stepD0 (OD.storeInt rfl Ak rfl rfl (i:=1) rfl (by omega)) rfl rfl ?_
  refine Zn (Zt (Zr (Zm rfl (Zd (OD.nilCheck rfl rfl) rfl ?_))))
  refine Zd (Qf Ra) rfl ?_
  refine Zd (Ql aw 4) rfl ?_
  refine Zm rfl (Zd (OD.indexAddr rfl To rfl (Ent.bls (i:=0) rfl) rfl (by first | omega | (simp only[List.length_set,List.length_replicate];omega))) rfl ?_)
  refine G.stepD0 (OD.storeBool rfl gK rfl rfl (i:=0) rfl (by first | omega | (simp only[List.length_set,List.length_replicate];omega))) rfl rfl ?_
  refine Zn (Zt (Zs (Zr (Zm rfl (Zd (OD.nilCheck rfl rfl) rfl ?_)))))
  refine Zd (Qf Mp) rfl ?_
  refine Zd (Ql AH 4) rfl ?_
  refine Zm rfl (Zd (OD.indexAddr rfl Ac rfl (Ei 1) rfl (by first | omega | (simp only[List.length_set,List.length_replicate];omega))) rfl ?_)
  refine Zd (OD.loadInt rfl Ak rfl (Ei 1) (by first | omega | (simp only[List.length_set,List.length_replicate];omega))) rfl ?_
  refine Za rfl (Zn (Zt (GC.ret (GE.blockR (GE.passR ?_)))))
  refine GE.mesClose (n:=cr) (d:=cd) (hmm9.setq hxm hym hq) ?_
  skip
  exact GE.body [3,0] 2 (Ao rfl rfl) rfl (⟨congrArg (fun a0=>(J (a0):Value)) ((fK (by omega):(((vmm9).set (q) (nF cr cd x y)).getD (q) 0:Int)=nF cr cd x y)),rfl⟩)
  replace hc8:=Am hc8
  refine Zk (Zt (Zs (Zr (Zm rfl (Zd (OD.nilCheck rfl rfl) rfl ?_)))))
  refine Zd (Qf Mp) rfl ?_
  refine Zd (Ql AH 4) rfl ?_
  refine Zm rfl (Zd (Qi Ac (Ei 1)) rfl ?_)
  refine Zd (Qv Ak (Ei 1)) rfl ?_
  refine Za rfl (Zn (Zt (GC.ret (GE.blockR (GE.passR ?_)))))
  refine GE.mesClose (n:=cr) (d:=cd) (hmm7) ?_
  skip
  exact GE.body [3,0] 2 (Ao rfl rfl) rfl (⟨congrArg (fun a0=>(J (a0):Value)) ((hmm7.getq hxm hym hq hc8:(vmm7.getD (q) 0:Int)=nF cr cd x y)),rfl⟩)
  refine Zs (Zr (Zm rfl (Zd (OD.not rfl rfl) rfl ?_)))
  refine Zm rfl ?_
  iterate 2 refine Yk ?_
  refine Zd (OD.pickF rfl rfl rfl) rfl ?_
  refine Za rfl (Zn (Zt (GC.condF rfl (Zs (Zr ?_)))))
  refine Zm rfl (Zd (OD.not rfl rfl) rfl ?_)
  refine Za rfl (Zn (Zt (GC.condF rfl (Zk (GE.blockN (Zt (Zs (Zs (Zr ?_)))))))))
  refine Zm rfl (Yt (Yc [v2] Q0 (by exact(Dg hs3 (Ei 0) (by omega)))) ?_)
  rintro _ _ ⟨rfl,rfl⟩
  refine Zn (Zt ?_)
  refine GC.cond rfl (fun hc10=>?_) (fun hc10=>?_)
  refine Zs (Ya [(0,_),(1,_),(2,_),(6,_),(7,_),(9,_)] ?_)
  refine Wp [Z0 103 (.agg #[J (cr),vcd]),Z0 104 v2,Z1 105 [(0,103),(1,104)] (J (Dm cr cd (Af x 1 y))),Z0 106 (Pg gm 0),Z0 107 vy,⟨108,[(4,107)],[],[],[5],fun ds=>((ds.getD 0 []).getD 0 undef),fun ds=>Ab ((ds.getD 0 []).getD 0 undef),fun ds=>[ints 3 ((ds.getD 0 []).getD 0 undef) (Av y)]⟩,Z0 109 v2,⟨110,[(3,106),(5,108),(6,109)],[5],[],[5],fun _=>J (nF cr cd (Av y) (Af x 1 y)),fun _=>True,fun _=>[]⟩,⟨111,[(2,105),(7,110)],[5],[],[5],fun _=>J (IntKind.i64.wrap ((Dm cr cd (Af x 1 y))*(nF cr cd (Av y) (Af x 1 y)))),fun _=>True,fun _=>[]⟩,Z0 112 (.agg #[J (cr),vcd]),Z0 113 vx,Z1 114 [(9,112),(10,113)] (J (Dm cr cd x)),⟨115,[(8,111),(11,114)],[5],[],[5],fun _=>J (IntKind.i64.wrap ((IntKind.i64.wrap ((Dm cr cd (Af x 1 y))*(nF cr cd (Av y) (Af x 1 y)))).tdiv (Dm cr cd x))),fun _=>True,fun _=>[]⟩,⟨116,[(12,115)],[5],[],[5],fun _=>J (IntKind.i64.wrap (0 - (IntKind.i64.wrap ((IntKind.i64.wrap ((Dm cr cd (Af x 1 y))*(nF cr cd (Av y) (Af x 1 y)))).tdiv (Dm cr cd x))))),fun _=>True,fun _=>[]⟩] (Zc (fun _ _ _=>Zq (Qa An 1 [_,_]) rfl) (Yv (Zc (fun _ _ _=>Zq (Yc [.agg #[J (cr),vcd],v2] Dw (by exact(B9 scd (Ent.drop 4 ecd.app) hs3 (Ei 0) (hS) (by omega)))) rfl) (Yv (Yv (Zc (fun _ _ _=>AR.plain (OG.imp (Yc [vy] EE (by exact(BA sy (Ent.drop 4 ey.app) (fun j _=>by have:=h10y j;omega) (by omega)))) (by rintro v11 _ ⟨_,rfl,hs12,rfl⟩;exact⟨[v11],rfl,hs12,rfl⟩)) rfl) (Yv (Zc (fun θ _ ⟨_,h5d,_,_⟩=>Zq (Yc [Pg gm 0,((θ 5).getD 0 undef),v2] E7 (by exact(Spec.atIdx2 (i:=3) (j:=3) rfl rfl (ih scd (Ent.drop 3 ecd.app) sL (Ent.drop 3 eL.app) (fun k hk=>(Ent.drop 3 ((mL k hk).app))) lL aL sdn svl h5d (Ei 0) hs3 (Ei 1) (hS) (KK hy) (hz) (fI hS hx hy (Hy hS hx hg5e) (Hz hS hy hc6) (Hy hS hz hc10) hm))))) rfl) (Zc (fun _ _ _=>Zq CN rfl) (Zc (fun _ _ _=>Zq (Qa An 1 [_,_]) rfl) (Yv (Zc (fun _ _ _=>Zq (Yc [.agg #[J (cr),vcd],vx] Dw (by exact(B9 scd (Ent.drop 4 ecd.app) sx (Ent.drop 4 ex.app) (hS) (by omega)))) rfl) (Zc (fun _ _ _=>Zq (OD.quo rfl rfl rfl (by rw[Fz hS hx];have:=Ce hS hx;omega)) rfl) (Zc (fun _ _ _=>Zq (OD.sub rfl rfl rfl) rfl) As.nil)))))))))))))) ?_
  intro θ hall
  obtain⟨_,_,_,_,_,h5a,_,_,_,_,_,_,_,_,_⟩:=hall
  refine Yb [(6,_),(116,J (IntKind.i64.wrap (0 - (IntKind.i64.wrap ((IntKind.i64.wrap ((Dm cr cd (Af x 1 y))*(nF cr cd (Av y) (Af x 1 y)))).tdiv (Dm cr cd x))))))] (ints 3 ((θ 5).getD 0 undef) (Av y)::_::_) ?_
  have hs13:Ab ((θ 5).getD 0 undef):=h5a
  clear h5a
  generalize ((θ 5).getD 0 undef)=v14 at *
  show G _ _ _ [_] _ _ _ _
  refine Za rfl (Zn (Zt (GC.ret (GE.passR ?_))))
  skip
  exact GE.body [3,3] 3 (Ao rfl rfl) rfl (⟨congrArg (fun a0=>(J (a0):Value)) ((ck hS hx hy hz (Hy hS hx hg5e) (Hz hS hy hc6) (Hy hS hz hc10):(IntKind.i64.wrap (0 - (IntKind.i64.wrap ((IntKind.i64.wrap ((Dm cr cd (Af x 1 y))*(nF cr cd (Av y) (Af x 1 y)))).tdiv (Dm cr cd x)))):Int)=nF cr cd x y)),rfl⟩)
  refine Zk (Zt (Zs (Ya [(0,_),(1,_),(2,_),(6,_),(7,_),(9,_)] ?_)))
  refine Wp [Z0 117 (.agg #[J (cr),vcd]),Z0 118 v2,Z1 119 [(0,117),(1,118)] (J (Dm cr cd (Af x 1 y))),Z0 120 (Pg gm 0),Z0 121 v2,⟨122,[(4,121)],[],[],[5],fun ds=>((ds.getD 0 []).getD 0 undef),fun ds=>Ab ((ds.getD 0 []).getD 0 undef),fun ds=>[ints 3 ((ds.getD 0 []).getD 0 undef) (Av (Af x 1 y))]⟩,Z0 123 vx,⟨124,[(3,120),(5,122),(6,123)],[5],[],[5],fun _=>J (nF cr cd (Av (Af x 1 y)) x),fun _=>True,fun _=>[]⟩,⟨125,[(2,119),(7,124)],[5],[],[5],fun _=>J (IntKind.i64.wrap ((Dm cr cd (Af x 1 y))*(nF cr cd (Av (Af x 1 y)) x))),fun _=>True,fun _=>[]⟩,Z0 126 (.agg #[J (cr),vcd]),Z0 127 vy,Z1 128 [(9,126),(10,127)] (J (Dm cr cd y)),⟨129,[(8,125),(11,128)],[5],[],[5],fun _=>J (IntKind.i64.wrap ((IntKind.i64.wrap ((Dm cr cd (Af x 1 y))*(nF cr cd (Av (Af x 1 y)) x))).tdiv (Dm cr cd y))),fun _=>True,fun _=>[]⟩] (Zc (fun _ _ _=>Zq (Qa An 1 [_,_]) rfl) (Yv (Zc (fun _ _ _=>Zq (Yc [.agg #[J (cr),vcd],v2] Dw (by exact(B9 scd (Ent.drop 4 ecd.app) hs3 (Ei 0) (hS) (by omega)))) rfl) (Yv (Yv (Zc (fun _ _ _=>AR.plain (OG.imp (Yc [v2] EE (by exact(BA hs3 (Ei 0) (Lr hS (.inl rfl) hx hy) (by omega)))) (by rintro v15 _ ⟨_,rfl,hs16,rfl⟩;exact⟨[v15],rfl,hs16,rfl⟩)) rfl) (Yv (Zc (fun θ _ ⟨_,h5d,_,_⟩=>Zq (Yc [Pg gm 0,((θ 5).getD 0 undef),vx] E7 (by exact(Spec.atIdx2 (i:=3) (j:=3) rfl rfl (ih scd (Ent.drop 3 ecd.app) sL (Ent.drop 3 eL.app) (fun k hk=>(Ent.drop 3 ((mL k hk).app))) lL aL sdn svl h5d (Ei 0) sx (Ent.drop 3 ex.app) (hS) (KK hz) (hx) (ZW hS hx hy hz (Hy hS hx hg5e) (Hz hS hy hc6) (Hz hS hz hc10) hm))))) rfl) (Zc (fun _ _ _=>Zq CN rfl) (Zc (fun _ _ _=>Zq (Qa An 1 [_,_]) rfl) (Yv (Zc (fun _ _ _=>Zq (Yc [.agg #[J (cr),vcd],vy] Dw (by exact(B9 scd (Ent.drop 4 ecd.app) sy (Ent.drop 4 ey.app) (hS) (by omega)))) rfl) (Zc (fun _ _ _=>Zq (OD.quo rfl rfl rfl (by rw[Fz hS hy];have:=Ce hS hy;omega)) rfl) As.nil))))))))))))) ?_
  intro θ hall
  obtain⟨_,_,_,_,_,h5a,_,_,_,_,_,_,_,_⟩:=hall
  refine Yb [(6,_),(129,J (IntKind.i64.wrap ((IntKind.i64.wrap ((Dm cr cd (Af x 1 y))*(nF cr cd (Av (Af x 1 y)) x))).tdiv (Dm cr cd y))))] (ints 3 ((θ 5).getD 0 undef) (Av (Af x 1 y))::_::_) ?_
  have hs17:Ab ((θ 5).getD 0 undef):=h5a
  clear h5a
  generalize ((θ 5).getD 0 undef)=v18 at *
  show G _ _ _ [_] _ _ _ _
  refine Za rfl (Zn (Zt (GC.ret ?_)))
  skip
  exact GE.body [3,3] 3 (Ao rfl rfl) rfl (⟨congrArg (fun a0=>(J (a0):Value)) ((cE hS hx hy hz (Hy hS hx hg5e) (Hz hS hy hc6) (Hz hS hz hc10):(IntKind.i64.wrap ((IntKind.i64.wrap ((Dm cr cd (Af x 1 y))*(nF cr cd (Av (Af x 1 y)) x))).tdiv (Dm cr cd y)):Int)=nF cr cd x y)),rfl⟩)
  have hg5e:=hg5
  rw[hg5e]
  refine Yk ?_
  refine Zd (OD.pickF rfl rfl rfl) rfl ?_
  refine Za rfl (Zn (Zt (GC.condF rfl (Zs (Zr ?_)))))
  refine Zm rfl (Zd (OD.not rfl rfl) rfl ?_)
  refine Zm rfl (Yd (OD.move rfl rfl) ?_)
  refine Yd (OD.not rfl rfl) ?_
  refine Zd (OD.pickT rfl rfl rfl) rfl ?_
  refine Za rfl (Zn (Zt ?_))
  refine GC.cond rfl (fun hc19=>?_) (fun hc19=>?_)
  replace hc19:=Ai hc19
  refine Zs (Zr (Zm rfl (Zm rfl (Yt (Yc [vx] EE (by exact(BA sx (Ent.drop 4 ex) (fun j _=>by have:=h10x j;omega) (by omega)))) ?_))))
  rintro v20 _ ⟨_,rfl,hs21,rfl⟩
  refine Zm rfl (Yt (Yc [vy] EE (by exact(BA sy (Ent.drop 5 ey) (fun j _=>by have:=h10y j;omega) (by omega)))) ?_)
  rintro v22 _ ⟨_,rfl,hs23,rfl⟩
  refine Yt (Yc [Pg gm 0,v20,v22] E7 (by exact(Spec.atIdx2 (i:=4) (j:=4) rfl rfl (ih scd (Ent.drop 4 ecd) sL (Ent.drop 4 eL) (fun k hk=>(Ent.drop 4 (mL k hk))) lL aL sdn svl hs21 (Ei 1) hs23 (Ei 0) (hS) (KK hx) (KK hy) (eh hS hx hy (Hz hS hx hg5e) (Hz hS hy hc19) hm))))) ?_
  rintro _ _ ⟨rfl,rfl⟩
  refine Zd (OD.sub rfl rfl rfl) rfl ?_
  refine Za rfl (Zn (Zt (GC.ret (GE.blockR (GE.passR ?_)))))
  skip
  exact GE.body [4,4] 4 (Ao rfl rfl) rfl (⟨congrArg (fun a0=>(J (a0):Value)) ((ej hS hx hy (Hz hS hx hg5e) (Hz hS hy hc19):(IntKind.i64.wrap (0 - (nF cr cd (Av x) (Av y))):Int)=nF cr cd x y)),rfl⟩)
  replace hc19:=Am hc19
  refine Zs (Zr (Zm rfl (Zd (OD.not rfl rfl) rfl ?_)))
  refine Za rfl (Zn (Zt (GC.condT rfl (Zs (Zr ?_)))))
  refine Zm rfl (Zm rfl (Zm rfl (Yt (Yc [Pg gm 0,vy,vx] E7 (by exact(Spec.atIdx2 (i:=2) (j:=2) rfl rfl (ih scd (Ent.drop 2 ecd) sL (Ent.drop 2 eL) (fun k hk=>(Ent.drop 2 (mL k hk))) lL aL sdn svl sy (Ent.drop 2 ey) sx (Ent.drop 2 ex) (hS) (hy) (hx) (fa hS hx (Hz hS hx hg5e) (Hy hS hy hc19) hm))))) ?_)))
  rintro _ _ ⟨rfl,rfl⟩
  refine Zd (OD.sub rfl rfl rfl) rfl ?_
  refine Za rfl (Zn (Zt (GC.ret (GE.blockR (GE.passR ?_)))))
  skip
  exact GE.body [2,2] 2 (Ao rfl rfl) rfl (⟨congrArg (fun a0=>(J (a0):Value)) ((aq hS hx hy (Hz hS hx hg5e) (Hy hS hy hc19):(IntKind.i64.wrap (0 - (nF cr cd y x)):Int)=nF cr cd x y)),rfl⟩)
theorem YU {W:World}{own:List Asn}{cr:Int}{vcd:Value}{cd:List Int}{vL:Value}{uL:List Value}(scd:Ab vcd)(ecd:Ent own fun w=>Ints w vcd cd)(sL:Ab vL)(eL:Ent own fun w=>Sl w vL (rSt cr cd).length 1 uL)(mL:∀ k,k<(rSt cr cd).length→Ent own fun w=>Ints w (uL.getD k undef) ((rSt cr cd).getD k []))(lL:uL.length=(rSt cr cd).length)(aL:AllS uL)(hS:(Ax cr cd).isSome=true):Spec Tryz.prog 93 [.agg #[J (cr),vcd],vL] W own (fun v ow=>∃ (g0:Nat) (v0:Value) (w0:Value),v=Pg g0 0∧Ab v0∧Ab w0∧ow=box g0 147 [J (cr),vcd,vL,v0,w0]::memS 4 3 v0 w0 cr cd::own):=by
 have hRf:(rSt cr cd).length≤30:=by have h1:=(rtOk hS).slen;have h2:=(rtOk hS).few;omega
 have hr4:=(rtOk hS).rk
 have hlo:=(rtOk hS).lo
 have hcr:=(AB hS).1
 have hle:∀ k,k<(rSt cr cd).length→((rSt cr cd).getD k []).length≤1073741824:=fun k hk=>by have:=(Ay hS (Bh hk)).1;omega
 have hmm:=A9 (a:=((rSt cr cd).length:Int)) (b:=((rSt cr cd).length:Int)) (A:=30) (B:=30) (by omega) (by omega)
 have hmn:(((rSt cr cd).length:Int)*((rSt cr cd).length:Int)).toNat=(rSt cr cd).length*(rSt cr cd).length:=by rw[← Int.natCast_mul];rfl
 have hm0:0≤((rSt cr cd).length:Int)*((rSt cr cd).length:Int):=by rw[← Int.natCast_mul];omega
 refine Spec.enter Tryz.f93 _ Tryz.func93 rfl (n:=20) rfl rfl ?_
 refine Zs (Zr (Yt (OG.box (cs:=[J (cr),vcd]) rfl rfl rfl) ?_))
 rintro _ _ ⟨g1,rfl,rfl⟩
 refine Za rfl (Zn (Zt (Zs (Zr (Zm rfl (Zd (Qn AM (Ent.drop 1 eL)) rfl ?_))))))
 refine Za rfl (Zn (Zt (Zs (Ya [(1,_),(2,_),(4,_),(5,_)] ?_))))
 refine Wp [Z0 8 (.agg #[J (cr),vcd]),Z0 9 vL,Z0 10 (J (((rSt cr cd).length:Nat))),Z0 11 (J (((rSt cr cd).length:Nat))),Z1 12 [(2,10),(3,11)] (J (((rSt cr cd).length:Nat)*((rSt cr cd).length:Nat))),⟨13,[(4,12)],[],[],[5],fun ds=>((ds.getD 0 []).getD 0 undef),fun ds=>Ab ((ds.getD 0 []).getD 0 undef),fun ds=>[bls 4 ((ds.getD 0 []).getD 0 undef) (List.replicate (((rSt cr cd).length:Nat)*((rSt cr cd).length:Nat):Int).toNat false)]⟩,Z0 14 (J (((rSt cr cd).length:Nat))),Z0 15 (J (((rSt cr cd).length:Nat))),Z1 16 [(6,14),(7,15)] (J (((rSt cr cd).length:Nat)*((rSt cr cd).length:Nat))),⟨17,[(8,16)],[],[],[9],fun ds=>((ds.getD 0 []).getD 0 undef),fun ds=>Ab ((ds.getD 0 []).getD 0 undef),fun ds=>[ints 3 ((ds.getD 0 []).getD 0 undef) (List.replicate (((rSt cr cd).length:Nat)*((rSt cr cd).length:Nat):Int).toNat (0:Int))]⟩,⟨18,[(0,8),(1,9),(5,13),(9,17)],[5,9],[],[5,9],fun ds => .agg #[J (cr),vcd,vL,((ds.getD 0 []).getD 0 undef),((ds.getD 1 []).getD 0 undef)],fun _=>True,fun _=>[]⟩,⟨19,[(10,18)],[5,9],[],[5,9,11],fun ds => .pointer (some ⟨(gOf ((ds.getD 2 []).getD 0 undef)),0,none⟩),fun _=>True,fun ds=>[box (gOf ((ds.getD 2 []).getD 0 undef)) 147 [J (cr),vcd,vL,((ds.getD 0 []).getD 0 undef),((ds.getD 1 []).getD 0 undef)]]⟩] (Zc (fun _ _ _=>Zq (Qa An 0 [_,_]) rfl) (Yv (Yv (Yv (Zc (fun _ _ _=>Zq Qm rfl) (Zc (fun _ _ _=>AR.plain (OG.imp (OG.makeBools rfl To rfl rfl (by omega)) (by rintro v2 _ ⟨hs3,rfl⟩;exact⟨[v2],rfl,hs3,rfl⟩)) rfl) (Yv (Yv (Zc (fun _ _ _=>Zq Qm rfl) (Zc (fun _ _ _=>AR.plain (OG.imp (OG.makeInts rfl Ac rfl rfl (by omega)) (by rintro v4 _ ⟨hs5,rfl⟩;exact⟨[v4],rfl,hs5,rfl⟩)) rfl) (Zc (fun θ _ ⟨_,_,h5d,h9d,_⟩=>Zq (OD.build (idx:=[0,1,2,3]) (xs:=[.tmp 8,.tmp 9,.tmp 13,.tmp 17]) (vs:=[.agg #[J (cr),vcd],vL,((θ 5).getD 0 undef),((θ 9).getD 0 undef)]) (cs:=[[J (cr),vcd],[vL],[((θ 5).getD 0 undef)],[((θ 9).getD 0 undef)]]) (zs:=[J (0),.slice none 0 0,.slice none 0 0,.slice none 0 0,.slice none 0 0]) (r:=[J (cr),vcd,vL,((θ 5).getD 0 undef),((θ 9).getD 0 undef)]) rfl dX rfl rfl rfl ⟨rfl,⟨(AN (Ab.one sL)),⟨(AN (Ab.one h5d)),⟨(AN (Ab.one h9d)),trivial⟩⟩⟩⟩ rfl) rfl) (Zc (fun θ _ _=>AR.plain (OG.imp (OG.box (cs:=[J (cr),vcd,vL,((θ 5).getD 0 undef),((θ 9).getD 0 undef)]) rfl rfl rfl) (by rintro _ _ ⟨g6,rfl,rfl⟩;exact⟨[Pg g6 0],rfl,trivial,rfl⟩)) rfl) As.nil)))))))))))) ?_
 intro θ hall
 obtain⟨_,_,_,_,_,h5a,_,_,_,h9a,_,h11a,_⟩:=hall
 refine Yb [(4,_),(19,.pointer (some ⟨(gOf ((θ 11).getD 0 undef)),0,none⟩))] (bls 4 ((θ 5).getD 0 undef) (List.replicate (((rSt cr cd).length:Nat)*((rSt cr cd).length:Nat):Int).toNat false)::ints 3 ((θ 9).getD 0 undef) (List.replicate (((rSt cr cd).length:Nat)*((rSt cr cd).length:Nat):Int).toNat (0:Int))::box (gOf ((θ 11).getD 0 undef)) 147 [J (cr),vcd,vL,((θ 5).getD 0 undef),((θ 9).getD 0 undef)]::_::_) ?_
 have hs7:Ab ((θ 5).getD 0 undef):=h5a
 clear h5a
 generalize ((θ 5).getD 0 undef)=v8 at *
 have hs9:Ab ((θ 9).getD 0 undef):=h9a
 clear h9a
 generalize ((θ 9).getD 0 undef)=v10 at *
 clear h11a
 generalize (gOf ((θ 11).getD 0 undef))=b11 at *
 show G _ _ _ [_] _ _ _ _
 refine Za rfl (Zn (Zt (GC.ret ?_)))
 refine GE.mesClose (n:=cr) (d:=cd) (Fv.new (by omega)) ?_
 skip
 exact GE.body [1,0] 1 (Ao rfl rfl) rfl (⟨b11,v8,v10,rfl,(hs7),(hs9),rfl⟩)
end Go.Proofs.YtbmnnbglipkidaaGreatDoor
