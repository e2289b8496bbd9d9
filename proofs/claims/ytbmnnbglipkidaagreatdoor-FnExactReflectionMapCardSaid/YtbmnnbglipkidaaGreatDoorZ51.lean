/-
  Coroots: contracts by walks.
-/
import Derived.Test.YtbmnnbglipkidaaGreatDoorWLen
namespace Go.Proofs.YtbmnnbglipkidaaGreatDoor
set_option maxRecDepth 100000
set_option linter.unusedVariables false
set_option linter.unusedSimpArgs false
open Go.RowKit
theorem ZV:∀ us w,(callFunc 57 us).run Tryz.prog w = .ok (.enter 57 us) w:=fun us w=>by kernel_rfl
theorem UA:∀ us w,(callFunc 168 us).run Tryz.prog w = .ok (.enter 168 us) w:=fun us w=>by kernel_rfl
theorem PC {W:World}{own:List Asn}{cr:Int}{vcd:Value}{cd:List Int}{vy:Value}{y:List Int}(scd:Ab vcd)(ecd:Ent own fun w=>Ints w vcd cd)(sy:Ab vy)(ey:Ent own fun w=>Ints w vy y)(hty:(Ax cr cd).isSome=true)(hy:(y.length:Int)=cr)(hin:2≤EH cr cd y y∧EH cr cd y y≤2000000000):Spec Tryz.prog 127 [.agg #[J (cr),vcd],vy] W own (fun v ow=>∃ (r0:Value),v=r0∧Ab r0∧ow=ints 3 r0 (crF cr cd y)::own):=by
 have hcr:=(AB hty).1
 have hll:=(G3 hty).2.2
 have hhf:=Qh hin
 have hhe:Dm cr cd y=IntKind.i64.wrap ((EH cr cd y y).tdiv 2):=rfl
 refine Spec.enter Tryz.f127 _ Tryz.func127 rfl (n:=40) rfl rfl ?_
 refine Zs (Zr (Yt (OG.box (cs:=[J (cr),vcd]) rfl rfl rfl) ?_))
 rintro _ _ ⟨g1,rfl,rfl⟩
 refine Za rfl (Zn (Zt (Zs (Zr (Zd (Qa An 0 [_,_]) rfl ?_)))))
 refine Yt (Yc [.agg #[J (cr),vcd]] VN (by exact(Hm scd (Ent.drop 1 ecd) (hty)))) ?_
 rintro v2 _ ⟨_,rfl,hs3,rfl⟩
 refine Za rfl (Zn (Zt (Zs (Zr (Zd (Qa An 1 [_,_]) rfl ?_)))))
 refine Zm rfl (Zm rfl (Yt (Yc [.agg #[J (cr),vcd],vy,vy] UA (by exact(L1 scd (Ent.drop 2 ecd) sy (Ent.drop 2 ey) sy (Ent.drop 2 ey) (hty) (hy) (hy)))) ?_))
 rintro _ _ ⟨rfl,rfl⟩
 refine Zd (OD.quo rfl rfl rfl (by omega)) rfl ?_
 refine Za rfl (Zn (Zt (Zs (Zr (Zd (Qf Aq) rfl ?_)))))
 refine Zd (Ql Ak 1) rfl ?_
 refine Yt (OG.makeInts rfl Ac rfl rfl (by omega)) ?_
 rintro v4 _ ⟨hs5,rfl⟩
 refine Za rfl (Zn (Zt (Zs (Zs (Zr (Za rfl (Zn (Zt (GC.block ?_)))))))))
 refine Yl (ι:=Nat × List Int) (fun⟨i,ys⟩=>[(1,vy),(2,Pg g1 0),(5,v2),(6,J (IntKind.i64.wrap ((EH cr cd y y).tdiv 2))),(7,v4),(8,J ((i:Int)))]) (fun⟨i,ys⟩=>ints 3 v4 ys::ints 3 v2 (A3 cr cd)::box g1 27 [J (cr),vcd]::own) (fun⟨i,ys⟩=>(i≤y.length)∧(ys.length=y.length)∧(ys=(List.range i).foldl (fun(o:List Int) (i:Nat)=>o.set i (S6 cr cd y i)) (List.replicate y.length 0))) (fun⟨i,ys⟩=>y.length - i) (0,(List.replicate (cr:Int).toNat 0)) (⟨by omega,by simp;omega,by rw[show cr.toNat=y.length by omega];rfl⟩) [] 0 ?_
 rintro⟨i,ys⟩ ⟨hi,hyl,hys⟩
 refine Zs (Zs (Zr (Zm rfl (Zd (Qf Aq) rfl ?_))))
 refine Zd (Ql Ak 2) rfl ?_
 refine Zd Bb rfl ?_
 refine Zn (Zt ?_)
 refine GC.cond rfl (fun hc6=>?_) (fun hc6=>?_)
 replace hc6:=of_decide_eq_true hc6
 refine Zk (Zt (Zs (GC.block ?_)))
 refine Ya [(1,_),(2,_),(5,_),(6,_),(7,_),(8,_)] ?_
 refine Wp [Z0 25 v4,Z0 26 (J ((i:Int))),Z0 27 vy,Z0 28 (J ((i:Int))),Z1 29 [(2,27),(3,28)] (Aa vy 1 (i)),Z1 30 [(4,29)] (J (y.getD (i) 0)),Z0 31 v2,Z0 32 (J ((i:Int))),Z1 33 [(6,31),(7,32)] (Aa v2 1 (i)),Z1 34 [(8,33)] (J ((A3 cr cd).getD (i) 0)),Z1 35 [(5,30),(9,34)] (J (IntKind.i64.wrap ((y.getD (i) 0)*((A3 cr cd).getD (i) 0)))),Z0 36 (J (IntKind.i64.wrap ((EH cr cd y y).tdiv 2))),Z1 37 [(10,35),(11,36)] (J (IntKind.i64.wrap ((IntKind.i64.wrap ((y.getD (i) 0)*((A3 cr cd).getD (i) 0))).tdiv (IntKind.i64.wrap ((EH cr cd y y).tdiv 2))))),Z1 38 [(0,25),(1,26)] (Aa v4 1 (i))] (Yv (Yv (Yv (Yv (Zc (fun _ _ _=>Zq (Qi Ac (Ent.drop 3 ey.app)) rfl) (Zc (fun _ _ _=>Zq (Qv Ak (Ent.drop 3 ey.app)) rfl) (Yv (Yv (Zc (fun _ _ _=>Zq (Qi Ac (Ei 1)) rfl) (Zc (fun _ _ _=>Zq (Qv Ak (Ei 1)) rfl) (Zc (fun _ _ _=>Zq CN rfl) (Yv (Zc (fun _ _ _=>Zq (OD.quo rfl rfl rfl (by omega)) rfl) (Zc (fun _ _ _=>Zq (Qi Ac (Ei 0)) rfl) As.nil)))))))))))))) ?_
 intro θ _
 refine Yb [(1,_),(2,_),(5,_),(6,_),(7,_),(8,_),(37,J (IntKind.i64.wrap ((IntKind.i64.wrap ((y.getD (i) 0)*((A3 cr cd).getD (i) 0))).tdiv (IntKind.i64.wrap ((EH cr cd y y).tdiv 2))))),(38,Aa v4 1 (i))] (_::_) ?_
 show G _ _ _ [_] _ _ _ _
 refine G.stepD0 (OD.storeInt rfl Ak rfl rfl (i:=0) rfl (by omega)) rfl rfl ?_
 refine Zn (GE.blockN (Zt (Zr ?_)))
 refine Zm rfl (Zd (OD.addI rfl rfl rfl (by first | omega | (simp only[List.length_set,List.length_replicate];omega))) rfl ?_)
 exact Za rfl (Zn (Yg (i+1,(ys).set (i) (IntKind.i64.wrap ((IntKind.i64.wrap ((y.getD (i) 0)*((A3 cr cd).getD (i) 0))).tdiv (IntKind.i64.wrap ((EH cr cd y y).tdiv 2))))) (⟨by omega,by rw[List.length_set];exact hyl,Ar hys rfl⟩) [] 0))
 replace hc6:=of_decide_eq_false hc6
 refine GC.exit (Zp (Zp (GE.hit (Zt (Zs (Zr ?_))))))
 refine Zm rfl (Za rfl (Zn (Zt (GC.ret ?_))))
 exact GE.body [0] 2 (Ao rfl rfl) rfl (⟨v4,rfl,hs5,congrArg (fun l0=>ints 3 v4 l0::own) ((by rw[hys,show i=y.length by omega];exact Zw:ys=crF cr cd y))⟩)
theorem Ul {W:World}{own:List Asn}{cr:Int}{vcd:Value}{cd:List Int}{vy:Value}{y:List Int}(scd:Ab vcd)(ecd:Ent own fun w=>Ints w vcd cd)(sy:Ab vy)(ey:Ent own fun w=>Ints w vy y)(hty:(Ax cr cd).isSome=true)(hy:(y.length:Int)=cr)(hin:2≤EH cr cd y y∧EH cr cd y y≤2000000000):Spec Tryz.prog 69 [.agg #[J (cr),vcd],vy] W own (fun v ow=>∃ (r0:Value),v=r0∧Ab r0∧ow=ints 3 r0 (crF cr cd y)::own):=by
 have hcr:=(AB hty).1
 have hll:=(G3 hty).2.2
 have hhf:=Qh hin
 have hhe:Dm cr cd y=IntKind.i64.wrap ((EH cr cd y y).tdiv 2):=rfl
 refine Spec.enter Tryz.f69 _ Tryz.func69 rfl (n:=38) rfl rfl ?_
 refine Zs (Zr (Yt (OG.box (cs:=[J (cr),vcd]) rfl rfl rfl) ?_))
 rintro _ _ ⟨g1,rfl,rfl⟩
 refine Za rfl (Zn (Zt (Zs (Zr (Zd (Qa An 0 [_,_]) rfl ?_)))))
 refine Yt (Yc [.agg #[J (cr),vcd]] Tj (by exact(Lq scd (Ent.drop 1 ecd) (hty)))) ?_
 rintro v2 _ ⟨_,rfl,hs3,rfl⟩
 refine Za rfl (Zn (Zt (Zs (Zr (Zd (Qa An 1 [_,_]) rfl ?_)))))
 refine Zm rfl (Zm rfl (Yt (Yc [.agg #[J (cr),vcd],vy,vy] ZV (by exact(Q8 scd (Ent.drop 2 ecd) sy (Ent.drop 2 ey) sy (Ent.drop 2 ey) (hty) (hy) (hy)))) ?_))
 rintro _ _ ⟨rfl,rfl⟩
 refine Zd (OD.quo rfl rfl rfl (by omega)) rfl ?_
 refine Za rfl (Zn (Zt (Zs (Zr (Yt (OG.buildInts (xs:=[]) (is:=[]) rfl Ac rfl rfl rfl rfl rfl) ?_)))))
 rintro v4 _ ⟨hs5,rfl⟩
 refine Za rfl (Zn (Zt (Zs (Zs (Zr (Zm rfl (Zd (Qn Ac (Ent.drop 3 ey)) rfl ?_)))))))
 refine Zm rfl (Zn (Zt (GC.block ?_)))
 refine Yl (ι:=Nat × List Int × Value) (fun⟨i,ys,v⟩=>[(5,v2),(6,J (IntKind.i64.wrap ((EH cr cd y y).tdiv 2))),(18,vy),(19,J ((y.length:Nat))),(7,v),(20,J ((i:Int)))]) (fun⟨i,ys,v⟩=>ints 3 v ys::ints 3 v2 (A3 cr cd)::box g1 27 [J (cr),vcd]::own) (fun⟨i,ys,v⟩=>(i≤y.length)∧(Ab v)∧(ys=(List.range i).map (S6 cr cd y))) (fun⟨i,ys,v⟩=>y.length - i) (0,[],v4) (⟨by omega,hs5,rfl⟩) [] 0 ?_
 rintro⟨i,ys,v⟩ ⟨hi,hv,hys⟩
 have hyl:ys.length=i:=by rw[hys];simp
 refine Zs (Zr (Zd Bb rfl ?_))
 refine Zn (Zt (Zs ?_))
 refine GC.cond rfl (fun hc6=>?_) (fun hc6=>?_)
 replace hc6:=of_decide_eq_true hc6
 refine Zk (Zt (Zs (GC.block (Zs (Zr ?_)))))
 refine Zm rfl (Zd (Qi Ac (Ent.drop 3 ey)) rfl ?_)
 refine Zd (Qv Ak (Ent.drop 3 ey)) rfl ?_
 refine Za rfl (Za rfl (Zn (Zt (Zr (Zm rfl (Zm rfl (Zm rfl (Zm rfl (Zd (Qi Ac (Ei 1)) rfl ?_)))))))))
 refine Zd (Qv Ak (Ei 1)) rfl ?_
 refine Zd CN rfl ?_
 refine Zm rfl (Zd (OD.quo rfl rfl rfl (by omega)) rfl ?_)
 refine Yt (OG.buildInts (xs:=[.tmp 33]) (is:=[IntKind.i64.wrap ((IntKind.i64.wrap ((y.getD (i) 0)*((A3 cr cd).getD (i) 0))).tdiv (IntKind.i64.wrap ((EH cr cd y y).tdiv 2)))]) rfl Ac rfl rfl rfl rfl rfl) ?_
 rintro v7 _ ⟨hs8,rfl⟩
 refine Yt (OG.appendInts 1 rfl rfl Ac rfl rfl rfl (Ei 0) (by first | omega | (simp;omega))) ?_
 rintro v9 _ ⟨hs10,rfl⟩
 refine Za rfl (Zn (GE.blockN (Zt (Zr ?_))))
 refine Zd Qp rfl ?_
 exact Zm rfl (Zn (Yg (i+1,ys++[IntKind.i64.wrap ((IntKind.i64.wrap ((y.getD (i) 0)*((A3 cr cd).getD (i) 0))).tdiv (IntKind.i64.wrap ((EH cr cd y y).tdiv 2)))],v9) (⟨by omega,hs10,by rw[hys];exact XV⟩) [1,1,1] 1))
 replace hc6:=of_decide_eq_false hc6
 refine GC.exit (Zp (Zp (GE.hit (Zt (Zs (Zr ?_))))))
 refine Zm rfl (Za rfl (Zn (Zt (GC.ret ?_))))
 exact GE.body [0] 2 (Ao rfl rfl) rfl (⟨v,rfl,hv,congrArg (fun l0=>ints 3 v l0::own) ((by rw[hys,show i=y.length by omega];rfl:ys=crF cr cd y))⟩)
theorem M2 {W:World}{own:List Asn}{rr:Int}{vrd:Value}{vrs:Value}{urs:List Value}{rs:Nat}{grm:Nat}{rm:List (List Int × Int)}{vx:Value}{x:List Int}(srd:Ab vrd)(srs:Ab vrs)(ers:Ent own fun w=>Sl w vrs rs 1 urs)(hrm:Ent own (BO Bc valI grm rm))(sx:Ab vx)(ex:Ent own fun w=>Ints w vx x)(hrr:rr≤4)(hx:All64 x)(hxl:x.length≤1073741824)(htab:Ent own Cm)(hrr1:0≤rr)(hrs:rs≤30)(hfp:0≤fdP rr rm x∧fdP rr rm x≤30):Spec Tryz.prog 70 [.agg #[J (rr),vrd,vrs,.map (some grm)],vx] W own (fun v ow=>v=J (fdI rr rs rm x)∧ow=own):=by
 refine Spec.enter Tryz.f70 _ Tryz.func70 rfl (n:=30) rfl rfl ?_
 refine Zs (Zr (Yt (OG.box (cs:=[J (rr),vrd,vrs,.map (some grm)]) rfl rfl rfl) ?_))
 rintro _ _ ⟨g1,rfl,rfl⟩
 refine Za rfl (Zn (Zt (Zs (Zr (Zd (Qa Df 0 [_,_,_,_]) rfl ?_)))))
 refine Zm rfl (Yt (Yc [.agg #[J (rr),vrd,vrs,.map (some grm)],vx] PY (by exact(P2 srd srs (Ent.drop 1 ers) (Ent.drop 1 hrm) sx (Ent.drop 1 ex) (hrr) (hx) (hxl) ((Ent.drop 1 htab))))) ?_)
 rintro _ _ ⟨rfl,rfl⟩
 refine Zm rfl (Zd (OD.extract rfl rfl rfl) rfl ?_)
 refine Zd (OD.extract rfl rfl rfl) rfl ?_
 refine Zd (OD.extract rfl rfl rfl) rfl ?_
 refine Za rfl (Za rfl (Za rfl (Zn (Zt (Zs (GC.block (Zs (Zr ?_))))))))
 refine Zm rfl (Zd (OD.not rfl rfl) rfl ?_)
 refine Za rfl (Zn (Zt ?_))
 refine GC.cond rfl (fun hc2=>?_) (fun hc2=>?_)
 replace hc2:=Ai hc2
 refine Zs (Zr (Za rfl (Zn (Zt (GC.ret (GE.blockR (GE.passR ?_)))))))
 exact GE.body [] 1 (Ao rfl rfl) rfl (⟨congrArg (fun a0=>(J (a0):Value)) ((by simp[fdI,hc2]:(-1:Int)=fdI rr rs rm x)),rfl⟩)
 replace hc2:=Am hc2
 refine Zs (Zr (Zm rfl (Za rfl (Zn (Zt ?_)))))
 refine GC.cond rfl (fun hc3=>?_) (fun hc3=>?_)
 refine Zs (Zr (Zm rfl (Za rfl (Zn (Zt (GC.ret (GE.blockR (GE.passR ?_))))))))
 exact GE.body [] 1 (Ao rfl rfl) rfl (⟨congrArg (fun a0=>(J (a0):Value)) ((by simp[fdI,hc2,hc3]:(fdP rr rm x:Int)=fdI rr rs rm x)),rfl⟩)
 refine Zk (GE.blockN (Zt (Zs (Zr ?_))))
 refine Zd (Qf BR) rfl ?_
 refine Zd (Ql DZ 0) rfl ?_
 refine Zd (Qn AM (Ent.drop 1 ers)) rfl ?_
 refine Zd (Qf MP) rfl ?_
 refine Zd (Qf Aq) rfl ?_
 refine Zd (Ql Ak 0) rfl ?_
 refine Zd Qp rfl ?_
 refine Zm rfl (Zd Qp rfl ?_)
 refine Za rfl (Zn (Zt (GC.ret ?_)))
 exact GE.body [] 1 (Ao rfl rfl) rfl (⟨congrArg (fun a0=>(J (a0):Value)) ((by simp[fdI,hc2,hc3,hc3]:(((rs:Nat)+rr)+(fdP rr rm x):Int)=fdI rr rs rm x)),rfl⟩)
theorem D6 {W:World}{own:List Asn}{cr:Int}{vcd:Value}{cd:List Int}{vL:Value}{uL:List Value}{L:List (List Int)}{vx:Value}{x:List Int}(scd:Ab vcd)(ecd:Ent own fun w=>Ints w vcd cd)(sL:Ab vL)(eL:Ent own fun w=>Sl w vL L.length 1 uL)(mL:∀ k,k<L.length→Ent own fun w=>Ints w (uL.getD k undef) (L.getD k []))(lL:uL.length=L.length)(aL:AllS uL)(sx:Ab vx)(ex:Ent own fun w=>Ints w vx x)(hcr:1≤cr∧cr≤4)(hll:L.length≤1073741824)(hle:∀ k,k<L.length→(L.getD k []).length≤1073741824)(hb:∀ k,k<x.length → -1000≤x.getD k 0∧x.getD k 0≤1000)(hl:x.length≤1073741824):Spec Tryz.prog 78 [.agg #[J (cr),vcd],vL,vx] W own (fun v ow=>v=J (l7I cr L x)∧ow=own):=by
 refine Spec.enter Tryz.f78 _ Tryz.func78 rfl (n:=27) rfl rfl ?_
 refine Zs (Zr (Yt (OG.box (cs:=[J (cr),vcd]) rfl rfl rfl) ?_))
 rintro _ _ ⟨g1,rfl,rfl⟩
 refine Za rfl (Zn (Zt (Zs (Zr (Zm rfl (Zm rfl (Yt (Yc [vL,vx] Hd (by exact(Cw sL (Ent.drop 1 eL) (fun k hk=>(Ent.drop 1 (mL k hk))) lL aL sx (Ent.drop 1 ex) (hll) (hle)))) ?_)))))))
 rintro _ _ ⟨rfl,rfl⟩
 refine Za rfl (Zn (Zt (Zs (Zs (Zr (Zm rfl (Zd (OD.geq rfl rfl rfl) rfl ?_)))))))
 refine Zn (Zt ?_)
 refine GC.cond rfl (fun hc2=>?_) (fun hc2=>?_)
 replace hc2:=of_decide_eq_true hc2
 have hpl0:=Gw (L:=L) (x:=x)
 refine Zs (Zr (Zm rfl (Za rfl (Zn (Zt (GC.ret (GE.passR ?_)))))))
 exact GE.body [] 1 (Ao rfl rfl) rfl (⟨congrArg (fun a0=>(J (a0):Value)) ((by rw[l7I,if_pos hc2]:(plF L x:Int)=l7I cr L x)),rfl⟩)
 replace hc2:=of_decide_eq_false hc2
 have hpl0:=Gw (L:=L) (x:=x)
 refine Zk (Zt (Zs (Zr (Zm rfl (Zm rfl (Yt (Yc [vx] EE (by exact(BA sx (Ent.drop 1 ex) (hb) (hl)))) ?_))))))
 rintro v3 _ ⟨_,rfl,hs4,rfl⟩
 refine Yt (Yc [vL,v3] Hd (by exact(Cw sL (Ent.drop 2 eL) (fun k hk=>(Ent.drop 2 (mL k hk))) lL aL hs4 (Ei 0) (hll) (hle)))) ?_
 rintro _ _ ⟨rfl,rfl⟩
 refine Za rfl (Zn (Zt (Zs (Zs (Zr (Zm rfl (Zd Bb rfl ?_)))))))
 refine Zn (Zt ?_)
 refine GC.cond rfl (fun hc5=>?_) (fun hc5=>?_)
 replace hc5:=of_decide_eq_true hc5
 have hpl:=Gw (L:=L) (x:=Av x)
 refine Zs (Zr (Za rfl (Zn (Zt (GC.ret (GE.passR ?_))))))
 exact GE.body [] 2 (Ao rfl rfl) rfl (⟨congrArg (fun a0=>(J (a0):Value)) ((by rw[l7I,if_neg hc2,if_pos hc5]:(-1:Int)=l7I cr L x)),rfl⟩)
 replace hc5:=of_decide_eq_false hc5
 have hpl:=Gw (L:=L) (x:=Av x)
 refine Zk (Zt (Zs (Zr (Zm rfl (Zd (Qn AM (Ent.drop 2 eL)) rfl ?_)))))
 refine Zd (Qf Aq) rfl ?_
 refine Zd (Ql Ak 1) rfl ?_
 refine Zd Qp rfl ?_
 refine Zm rfl (Zd Qp rfl ?_)
 refine Za rfl (Zn (Zt (GC.ret ?_)))
 exact GE.body [] 2 (Ao rfl rfl) rfl (⟨congrArg (fun a0=>(J (a0):Value)) ((by rw[l7I,if_neg hc2,if_neg hc5]:(((L.length:Nat)+cr)+(plF L (Av x)):Int)=l7I cr L x)),rfl⟩)
end Go.Proofs.YtbmnnbglipkidaaGreatDoor
