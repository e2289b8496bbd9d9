/-
  Weights of a matrix: contracts by walks.
-/
import Derived.Test.YtbmnnbglipkidaaGreatDoorWTofA
import Derived.ProofKit
import Derived.SizedLaws
import Derived.Deep.Slices
import Derived.Deep.Fields
import Derived.ChangeSame
import Derived.Lib.SmallJoins
import Derived.Test.YtbmnnbglipkidaaGreatDoorTie
import Derived.Test.YtbmnnbglipkidaaGreatDoorCards
import Derived.ChangeMaps5
import Derived.LaidMore
import Derived.Lay
import Derived.Stop.Joined
import Derived.Lib.LaidTab
import Derived.Shelf.Bits.Mul64
import Derived.Laws.CopyRow
import Derived.Test.YtbmnnbglipkidaaGreatDoorLate
namespace Go.Proofs.YtbmnnbglipkidaaGreatDoor
set_option maxRecDepth 100000
set_option linter.unusedVariables false
set_option linter.unusedSimpArgs false
open Go.RowKit
theorem FW {W:World}{own:List Asn}{cr:Int}{vcd:Value}{cd:List Int}{vx:Value}{x:List Int}(scd:Ab vcd)(ecd:Ent own fun w=>Ints w vcd cd)(sx:Ab vx)(ex:Ent own fun w=>Ints w vx x)(hcr:1≤cr∧cr≤4)(hcd:(cd.length:Int)=cr*cr)(hx:(x.length:Int)=cr):Spec Tryz.prog 124 [.agg #[J (cr),vcd],vx] W own (fun v ow=>∃ (r0:Value),v=r0∧Ab r0∧ow=ints 3 r0 (wtF cr cd x)::own):=by
 have hrl:(List.replicate (cr:Int).toNat (0:Int)).length=cr.toNat:=List.length_replicate
 refine Spec.enter Tryz.f124 _ Tryz.func124 rfl (n:=41) rfl rfl ?_
 refine Zs (Zr (Yt (OG.box (cs:=[J (cr),vcd]) rfl rfl rfl) ?_))
 rintro _ _ ⟨g1,rfl,rfl⟩
 refine Za rfl (Zn (Zt (Zs (Zr (Zd (Qf Aq) rfl ?_)))))
 refine Zd (Ql Ak 0) rfl ?_
 refine Yt (OG.makeInts rfl Ac rfl rfl (by omega)) ?_
 rintro v2 _ ⟨hs3,rfl⟩
 refine Za rfl (Zn (Zt (Zs (Zs (Zr (Za rfl (Zn (Zt (GC.block ?_)))))))))
 refine Yl (ι:=Nat × List Int) (fun⟨i,ys⟩=>[(1,vx),(2,Pg g1 0),(5,v2),(6,J ((i:Int)))]) (fun⟨i,ys⟩=>ints 3 v2 ys::box g1 27 [J (cr),vcd]::own) (fun⟨i,ys⟩=>(i≤cr.toNat)∧(ys.length=cr.toNat)∧(ys=(List.range i).foldl (ZD cr cd x) (List.replicate cr.toNat 0))) (fun⟨i,ys⟩=>cr.toNat - i) (0,(List.replicate (cr:Int).toNat 0)) (⟨by omega,by simp,rfl⟩) [] 0 ?_
 rintro⟨i,ys⟩ ⟨hi,hyl,hy⟩
 refine Zs (Zs (Zr (Zm rfl (Zd (Qf Aq) rfl ?_))))
 refine Zd (Ql Ak 1) rfl ?_
 refine Zd Bb rfl ?_
 refine Zn (Zt ?_)
 refine GC.cond rfl (fun hc4=>?_) (fun hc4=>?_)
 replace hc4:=of_decide_eq_true hc4
 refine Zk (Zt (Zs (GC.block (Zs (Zr ?_)))))
 refine Za rfl (Zn (Zt (GC.block ?_)))
 refine Yl (ι:=Nat × List Int) (fun⟨j,zs⟩=>[(1,vx),(2,Pg g1 0),(5,v2),(6,J ((i:Int))),(7,J ((j:Int)))]) (fun⟨j,zs⟩=>ints 3 v2 zs::box g1 27 [J (cr),vcd]::own) (fun⟨j,zs⟩=>(j≤x.length)∧(zs.length=cr.toNat)∧(zs=(List.range j).foldl (fun(o:List Int) (j:Nat)=>o.set i (IntKind.i64.wrap (o.getD i 0+IntKind.i64.wrap (atI cr cd i j*x.getD j 0)))) ys)) (fun⟨j,zs⟩=>x.length - j) (0,ys) (⟨by omega,hyl,rfl⟩) [] 0 ?_
 rintro⟨j,zs⟩ ⟨hj,hzl,hz⟩
 refine Zs (Zs (Zr (Zm rfl (Zd (Qf Aq) rfl ?_))))
 refine Zd (Ql Ak 1) rfl ?_
 refine Zd Bb rfl ?_
 refine Zn (Zt ?_)
 refine GC.cond rfl (fun hc5=>?_) (fun hc5=>?_)
 replace hc5:=of_decide_eq_true hc5
 have hxx:=Be (n:=cr) (i:=i) (j:=j) ⟨by omega,by omega⟩ ⟨by omega,by omega⟩ (by omega)
 refine Zk (Zt (Zs (GC.block ?_)))
 refine Ya [(1,_),(2,_),(5,_),(6,_),(7,_)] ?_
 refine Wp [Z0 23 v2,Z0 24 (J ((i:Int))),Z0 25 v2,Z0 26 (J ((i:Int))),Z1 27 [(2,25),(3,26)] (Aa v2 1 (i)),Z1 28 [(4,27)] (J (zs.getD (i) 0)),Z0 29 (.agg #[J (cr),vcd]),Z0 30 (J ((i:Int))),Z0 31 (J ((j:Int))),Z1 32 [(6,29),(7,30),(8,31)] (J (atI cr cd (i:Int) (j:Int))),Z0 33 vx,Z0 34 (J ((j:Int))),Z1 35 [(10,33),(11,34)] (Aa vx 1 (j)),Z1 36 [(12,35)] (J (x.getD (j) 0)),Z1 37 [(9,32),(13,36)] (J (IntKind.i64.wrap ((atI cr cd (i:Int) (j:Int))*(x.getD (j) 0)))),Z1 38 [(5,28),(14,37)] (J (IntKind.i64.wrap ((zs.getD (i) 0)+(IntKind.i64.wrap ((atI cr cd (i:Int) (j:Int))*(x.getD (j) 0)))))),Z1 39 [(0,23),(1,24)] (Aa v2 1 (i))] (Yv (Yv (Yv (Yv (Zc (fun _ _ _=>Zq (Qi Ac (Ei 0)) rfl) (Zc (fun _ _ _=>Zq (Qv Ak (Ei 0)) rfl) (Zc (fun _ _ _=>Zq (Qa An 1 [_,_]) rfl) (Yv (Yv (Zc (fun _ _ _=>Zq (Yc [.agg #[J (cr),vcd],J ((i:Int)),J ((j:Int))] ent109 (by exact(Dc scd (Ent.drop 2 ecd.app) (by omega)))) rfl) (Yv (Yv (Zc (fun _ _ _=>Zq (Qi Ac (Ent.drop 2 ex.app)) rfl) (Zc (fun _ _ _=>Zq (Qv Ak (Ent.drop 2 ex.app)) rfl) (Zc (fun _ _ _=>Zq CN rfl) (Zc (fun _ _ _=>Zq Ha rfl) (Zc (fun _ _ _=>Zq (Qi Ac (Ei 0)) rfl) As.nil))))))))))))))))) ?_
 intro θ _
 refine Yb [(1,_),(2,_),(5,_),(6,_),(7,_),(38,J (IntKind.i64.wrap ((zs.getD (i) 0)+(IntKind.i64.wrap ((atI cr cd (i:Int) (j:Int))*(x.getD (j) 0)))))),(39,Aa v2 1 (i))] (_::_) ?_
 show G _ _ _ [_] _ _ _ _
 refine G.stepD0 (OD.storeInt rfl Ak rfl rfl (i:=0) rfl (by omega)) rfl rfl ?_
 refine Zn (GE.blockN (Zt (Zr ?_)))
 refine Zm rfl (Zd (OD.addI rfl rfl rfl (by first | omega | (simp only[List.length_set,List.length_replicate];omega))) rfl ?_)
 exact Za rfl (Zn (Yg (j+1,(zs).set (i) (IntKind.i64.wrap ((zs.getD (i) 0)+(IntKind.i64.wrap ((atI cr cd (i:Int) (j:Int))*(x.getD (j) 0)))))) (⟨by omega,by rw[List.length_set];exact hzl,Ar hz rfl⟩) [] 0))
 replace hc5:=of_decide_eq_false hc5
 refine GC.exit (Zp (Zp (GE.hit (GE.blockN (Zt (Zr ?_))))))
 refine Zm rfl (Zd Qp rfl ?_)
 exact Za rfl (Zn (Yg (i+1,zs) (⟨by omega,hzl,Ar hy (by rw[hz,show j=x.length by omega];rfl)⟩) [] 0))
 replace hc4:=of_decide_eq_false hc4
 refine GC.exit (Zp (Zp (GE.hit (Zt (Zs (Zr ?_))))))
 refine Zm rfl (Za rfl (Zn (Zt (GC.ret ?_))))
 exact GE.body [0] 1 (Ao rfl rfl) rfl (⟨v2,rfl,hs3,congrArg (fun l0=>ints 3 v2 l0::own) ((by rw[hy,show i=cr.toNat by omega];rfl:ys=wtF cr cd x))⟩)
theorem Eo {W:World}{own:List Asn}{cr:Int}{vcd:Value}{cd:List Int}{vx:Value}{x:List Int}(scd:Ab vcd)(ecd:Ent own fun w=>Ints w vcd cd)(sx:Ab vx)(ex:Ent own fun w=>Ints w vx x)(hcr:1≤cr∧cr≤4)(hcd:(cd.length:Int)=cr*cr)(hx:(x.length:Int)=cr):Spec Tryz.prog 66 [.agg #[J (cr),vcd],vx] W own (fun v ow=>∃ (r0:Value),v=r0∧Ab r0∧ow=ints 3 r0 (wtF cr cd x)::own):=by
 have hrl:(List.replicate (cr:Int).toNat (0:Int)).length=cr.toNat:=List.length_replicate
 refine Spec.enter Tryz.f66 _ Tryz.func66 rfl (n:=39) rfl rfl ?_
 refine Zs (Zr (Yt (OG.box (cs:=[J (cr),vcd]) rfl rfl rfl) ?_))
 rintro _ _ ⟨g1,rfl,rfl⟩
 refine Za rfl (Zn (Zt (Zs (Zr (Zd (Qf Aq) rfl ?_)))))
 refine Zd (Ql Ak 0) rfl ?_
 refine Yt (OG.makeInts rfl Ac rfl rfl (by omega)) ?_
 rintro v2 _ ⟨hs3,rfl⟩
 refine Za rfl (Zn (Zt (Zs (Zs (Zr (Zm rfl (Zd (Qn Ac (Ei 0)) rfl ?_)))))))
 refine Zm rfl (Zn (Zt (GC.block ?_)))
 refine Yl (ι:=Nat × List Int) (fun⟨i,ys⟩=>[(1,vx),(2,Pg g1 0),(5,v2),(13,J (((List.replicate (cr:Int).toNat (0:Int)).length:Nat))),(14,J ((i:Int)))]) (fun⟨i,ys⟩=>ints 3 v2 ys::box g1 27 [J (cr),vcd]::own) (fun⟨i,ys⟩=>(i≤cr.toNat)∧(ys.length=cr.toNat)∧(ys=(List.range i).foldl (ZD cr cd x) (List.replicate cr.toNat 0))) (fun⟨i,ys⟩=>cr.toNat - i) (0,(List.replicate (cr:Int).toNat 0)) (⟨by omega,by simp,rfl⟩) [] 0 ?_
 rintro⟨i,ys⟩ ⟨hi,hyl,hy⟩
 refine Zs (Zr (Zd Bb rfl ?_))
 refine Zn (Zt (Zs ?_))
 refine GC.cond rfl (fun hc4=>?_) (fun hc4=>?_)
 replace hc4:=of_decide_eq_true hc4
 refine Zk (Zt (Zs (GC.block (Zs (Zr ?_)))))
 refine Zm rfl (Za rfl (Zn (Zt (Zs (Zr (Zm rfl (Zd (Qn Ac (Ent.drop 2 ex)) rfl ?_)))))))
 refine Zm rfl (Zn (Zt (GC.block ?_)))
 refine Yl (ι:=Nat × List Int) (fun⟨j,zs⟩=>[(1,vx),(2,Pg g1 0),(5,v2),(13,J (((List.replicate (cr:Int).toNat (0:Int)).length:Nat))),(14,J ((i:Int))),(6,J ((i:Int))),(17,vx),(18,J ((x.length:Nat))),(19,J ((j:Int)))]) (fun⟨j,zs⟩=>ints 3 v2 zs::box g1 27 [J (cr),vcd]::own) (fun⟨j,zs⟩=>(j≤x.length)∧(zs.length=cr.toNat)∧(zs=(List.range j).foldl (fun(o:List Int) (j:Nat)=>o.set i (IntKind.i64.wrap (o.getD i 0+IntKind.i64.wrap (atI cr cd i j*x.getD j 0)))) ys)) (fun⟨j,zs⟩=>x.length - j) (0,ys) (⟨by omega,hyl,rfl⟩) [] 0 ?_
 rintro⟨j,zs⟩ ⟨hj,hzl,hz⟩
 refine Zs (Zr (Zd Bb rfl ?_))
 refine Zn (Zt (Zs ?_))
 refine GC.cond rfl (fun hc5=>?_) (fun hc5=>?_)
 replace hc5:=of_decide_eq_true hc5
 have hxx:=Be (n:=cr) (i:=i) (j:=j) ⟨by omega,by omega⟩ ⟨by omega,by omega⟩ (by omega)
 refine Zk (Zt (Zs (GC.block (Zs (Zr ?_)))))
 refine Zm rfl (Zd (Qi Ac (Ent.drop 2 ex)) rfl ?_)
 refine Zd (Qv Ak (Ent.drop 2 ex)) rfl ?_
 refine Za rfl (Za rfl (Zn (Zt (Ya [(1,_),(2,_),(5,_),(13,_),(14,_),(6,_),(17,_),(18,_),(19,_),(7,_),(8,_)] ?_))))
 refine Wp [Z0 24 v2,Z0 25 (J ((i:Int))),Z1 26 [(0,24),(1,25)] (Aa v2 1 (i)),Z1 27 [(2,26)] (J (zs.getD (i) 0)),Z0 28 (.agg #[J (cr),vcd]),Z0 29 (J ((i:Int))),Z0 30 (J ((j:Int))),Z1 31 [(4,28),(5,29),(6,30)] (J (atI cr cd (i:Int) (j:Int))),Z0 32 (J (x.getD (j) 0)),Z1 33 [(7,31),(8,32)] (J (IntKind.i64.wrap ((atI cr cd (i:Int) (j:Int))*(x.getD (j) 0)))),Z1 34 [(3,27),(9,33)] (J (IntKind.i64.wrap ((zs.getD (i) 0)+(IntKind.i64.wrap ((atI cr cd (i:Int) (j:Int))*(x.getD (j) 0)))))),Z1 35 [(0,24),(1,25)] (Aa v2 1 (i))] (Yv (Yv (Zc (fun _ _ _=>Zq (Qi Ac (Ei 0)) rfl) (Zc (fun _ _ _=>Zq (Qv Ak (Ei 0)) rfl) (Zc (fun _ _ _=>Zq (Qa An 1 [_,_]) rfl) (Yv (Yv (Zc (fun _ _ _=>Zq (Yc [.agg #[J (cr),vcd],J ((i:Int)),J ((j:Int))] Nj (by exact(XY scd (Ent.drop 2 ecd.app) (by omega)))) rfl) (Yv (Zc (fun _ _ _=>Zq CN rfl) (Zc (fun _ _ _=>Zq Ha rfl) (Zc (fun _ _ _=>Zq (Qi Ac (Ei 0)) rfl) As.nil)))))))))))) ?_
 intro θ _
 refine Yb [(1,_),(2,_),(5,_),(13,_),(14,_),(6,_),(17,_),(18,_),(19,_),(34,J (IntKind.i64.wrap ((zs.getD (i) 0)+(IntKind.i64.wrap ((atI cr cd (i:Int) (j:Int))*(x.getD (j) 0)))))),(35,Aa v2 1 (i))] (_::_) ?_
 show G _ _ _ [_] _ _ _ _
 refine G.stepD0 (OD.storeInt rfl Ak rfl rfl (i:=0) rfl (by omega)) rfl rfl ?_
 refine Zn (GE.blockN (Zt (Zr ?_)))
 refine Zd (OD.addI rfl rfl rfl (by first | omega | (simp only[List.length_set,List.length_replicate];omega))) rfl ?_
 exact Zm rfl (Zn (Yg (j+1,(zs).set (i) (IntKind.i64.wrap ((zs.getD (i) 0)+(IntKind.i64.wrap ((atI cr cd (i:Int) (j:Int))*(x.getD (j) 0)))))) (⟨by omega,by rw[List.length_set];exact hzl,Ar hz rfl⟩) [] 0))
 replace hc5:=of_decide_eq_false hc5
 refine GC.exit (Zp (Zp (GE.hit (GE.blockN (Zt (Zr ?_))))))
 refine Zd Qp rfl ?_
 exact Zm rfl (Zn (Yg (i+1,zs) (⟨by omega,hzl,Ar hy (by rw[hz,show j=x.length by omega];rfl)⟩) [] 0))
 replace hc4:=of_decide_eq_false hc4
 refine GC.exit (Zp (Zp (GE.hit (Zt (Zs (Zr ?_))))))
 refine Zm rfl (Za rfl (Zn (Zt (GC.ret ?_))))
 exact GE.body [0] 1 (Ao rfl rfl) rfl (⟨v2,rfl,hs3,congrArg (fun l0=>ints 3 v2 l0::own) ((by rw[hy,show i=cr.toNat by omega];rfl:ys=wtF cr cd x))⟩)
theorem PM {W:World}{own:List Asn}{cr:Int}{vcd:Value}{cd:List Int}{i:Int}{vx:Value}{x:List Int}(scd:Ab vcd)(ecd:Ent own fun w=>Ints w vcd cd)(sx:Ab vx)(ex:Ent own fun w=>Ints w vx x)(hcr:1≤cr∧cr≤4)(hcd:(cd.length:Int)=cr*cr)(hi:0≤i∧i<cr)(hw:(x.length:Int)=cr):Spec Tryz.prog 94 [.agg #[J (cr),vcd],J (i),vx] W own (fun v ow=>∃ (r0:Value),v=r0∧Ab r0∧ow=ints 3 r0 (arI cr cd i x)::own):=by
 have hwl:=Dj cr cd x
 refine Spec.enter Tryz.f94 _ Tryz.func94 rfl (n:=25) rfl rfl ?_
 refine Zs (Zr (Yt (OG.box (cs:=[J (cr),vcd]) rfl rfl rfl) ?_))
 rintro _ _ ⟨g1,rfl,rfl⟩
 refine Za rfl (Zn (Zt (Zs (Zr (Zm rfl (Yt (Yc [vx] Pc (by exact(KR sx (Ent.drop 1 ex) (by omega)))) ?_))))))
 rintro v2 _ ⟨_,rfl,hs3,rfl⟩
 refine Za rfl (Zn (Zt (Zs (Ya [(1,_),(2,_),(3,_),(7,_)] ?_))))
 refine Wp [Z0 10 v2,Z0 11 (J (i)),Z0 12 v2,Z0 13 (J (i)),Z1 14 [(2,12),(3,13)] (Aa v2 1 ((i:Int).toNat)),Z1 15 [(4,14)] (J (x.getD ((i:Int).toNat) 0)),Z0 16 (.agg #[J (cr),vcd]),Z0 17 vx,⟨18,[(6,16),(7,17)],[],[],[8],fun ds=>((ds.getD 0 []).getD 0 undef),fun ds=>Ab ((ds.getD 0 []).getD 0 undef),fun ds=>[ints 3 ((ds.getD 0 []).getD 0 undef) (wtF cr cd x)]⟩,Z0 19 (J (i)),⟨20,[(8,18),(9,19)],[8],[],[8],fun ds=>Aa (((ds.getD 0 []).getD 0 undef)) 1 ((i:Int).toNat),fun _=>True,fun _=>[]⟩,⟨21,[(10,20)],[8],[],[8],fun _=>J ((wtF cr cd x).getD ((i:Int).toNat) 0),fun _=>True,fun _=>[]⟩,⟨22,[(5,15),(11,21)],[8],[],[8],fun _=>J (IntKind.i64.wrap ((x.getD ((i:Int).toNat) 0) - ((wtF cr cd x).getD ((i:Int).toNat) 0))),fun _=>True,fun _=>[]⟩,Z1 23 [(0,10),(1,11)] (Aa v2 1 ((i:Int).toNat))] (Yv (Yv (Yv (Yv (Zc (fun _ _ _=>Zq (Qi Ac (Ei 0)) rfl) (Zc (fun _ _ _=>Zq (Qv Ak (Ei 0)) rfl) (Zc (fun _ _ _=>Zq (Qa An 1 [_,_]) rfl) (Yv (Zc (fun _ _ _=>AR.plain (OG.imp (Yc [.agg #[J (cr),vcd],vx] Pd (by exact(FW scd (Ent.drop 2 ecd.app) sx (Ent.drop 2 ex.app) (hcr) (hcd) (hw)))) (by rintro v4 _ ⟨_,rfl,hs5,rfl⟩;exact⟨[v4],rfl,hs5,rfl⟩)) rfl) (Yv (Zc (fun _ _ _=>Zq (Qi Ac (Ei 0)) rfl) (Zc (fun _ _ _=>Zq (Qv Ak (Ei 0)) rfl) (Zc (fun _ _ _=>Zq (OD.sub rfl rfl rfl) rfl) (Zc (fun _ _ _=>Zq (Qi Ac (Ei 0)) rfl) As.nil)))))))))))))) ?_
 intro θ hall
 obtain⟨_,_,_,_,_,_,_,_,h8a,_,_,_,_,_,_⟩:=hall
 refine Yb [(7,_),(22,J (IntKind.i64.wrap ((x.getD ((i:Int).toNat) 0) - ((wtF cr cd x).getD ((i:Int).toNat) 0)))),(23,Aa v2 1 ((i:Int).toNat))] (ints 3 ((θ 8).getD 0 undef) (wtF cr cd x)::_::_) ?_
 have hs6:Ab ((θ 8).getD 0 undef):=h8a
 clear h8a
 generalize ((θ 8).getD 0 undef)=v7 at *
 show G _ _ _ [_] _ _ _ _
 refine G.stepD0 (OD.storeInt rfl Ak rfl rfl (i:=1) rfl (by omega)) rfl rfl ?_
 refine Zn (Zt (Zs (Zr (Zm rfl (Za rfl (Zn (Zt (GC.ret ?_))))))))
 exact GE.body [1] 2 (Ao rfl rfl) rfl (⟨v2,rfl,hs3,rfl⟩)
open Go.RowKit Go.Sort
theorem PN (w:World)(k:Nat)(os:Array Obj):Below w.heap.size w (grow (w.drewN k) os):=by
  refine⟨rfl,rfl,rfl,by simp[grow],fun i hi=>?_⟩
  simp only[grow]
  rw[Array.getElem?_append_left (by simpa using hi)]
  rfl
def Cm (w:World):Prop:=Lib.TabIs Tryz.prog w "internal/strconv.uint64pow10" .u64 Lib.pow10Tab
def dt (n:Int):Prop := -9223372036854775808≤n∧n≤9223372036854775807
def All64 (xs:List Int):Prop:=∀ x∈xs,dt x
theorem All64.get {xs:List Int}(h:All64 xs){k:Nat}(hk:k<xs.length):dt (xs.getD k 0):=by
  have e:xs.getD k 0=xs[k]:=by simp[List.getD,hk]
  rw[e]
  exact h _ (List.getElem_mem hk)
theorem R7 {x:List Int}{k:Nat}(h:k<x.length):(x.take k).map DU++[DU (x.getD k 0)]=(x.take (k+1)).map DU:=by
  rw[List.take_succ_eq_append_getElem h,List.map_append]
  simp[List.getD,h]
theorem bM {W:World}{own:List Asn}{n:Int}(hn:dt n)(ht:Ent own Cm):Spec Tryz.prog 179 [.int .i64 n] W own fun v ow=>v = .string (DU n)∧ow=own :=
  Spec.below fun w hst=>(Any.strconv_Itoa { Tryz.l171 with } n hn.1 hn.2 w (ht W w hst)).mono fun e w' ⟨he,k,os,hw⟩=>⟨he,hw ▸ PN w k os⟩
theorem XH {W:World}{own:List Asn}{v:Value}{xs:List Int}(_:Ab v)(hv:Ent own fun w=>KQ w v (xs.map DU))(hr:All64 xs)(hN:xs.length≤1000000) :
    Spec Tryz.prog 153 [v,.string ⟨#[32]⟩] W own fun u ow=>u = .string (Ca xs)∧ow=own:=Spec.below fun w hst=>by
  obtain⟨_,ao,cap,rfl,h1,_,_,h4⟩:=hv W w hst
  cases xs with
  | nil=>exact(Any.strings_Join_none Tryz.l156 Tryz.x156 ao cap ⟨#[32]⟩ w).mono fun e w' ⟨he,hw⟩=>⟨he,hw ▸ Below.refl _ _⟩
  | cons x r =>
    obtain⟨b,o,rfl,hb,hc⟩:=h4 (by simp)
    have hsz:=G0 hr
    have hj:=R4 (x::r)
    have h:=Any.strings_Join Tryz.l156 Tryz.x156 b o cap ((x::r).map DU) ⟨#[32]⟩ w (fun j y hy=>?_) hb (by rw[List.length_map];omega) h1 (by
      have e:=congrArg (fun b:ByteArray=>b.data.size) hj
      simp only[List.size_toArray] at e
      have e2:(Ca (x::r)).size=(Ca (x::r)).data.size:=rfl
      show (Lib.join _ [32]).length≤_
      rw[e,← e2]
      omega)
    · refine h.mono fun e w' ⟨he,hw⟩=>⟨?_,hw⟩
      rw[he]
      exact congrArg (fun b=>Ending.returned (.string b)) hj
    · have hj:j<((x::r).map DU).length:=(List.getElem?_eq_some_iff.1 hy).1
      rw[hc j (by rw[List.length_map] at hj ⊢;omega)]
      simp only[List.getD,List.getElem?_map] at hy ⊢
      cases e:(x::r)[j]? with
      | none=>rw[e] at hy;cases hy
      | some z =>
        rw[e] at hy
        simp at hy
        simp[hy]
section
variable {P:Program}{o:Oper}{n:Nat}{env:List (Nat × Value)}{W:World}{own:List Asn}{t yt:TypeId}{x y:Operand}{k:IntKind}{i j:Int}
theorem OD.nilCheck {a:Addr}(hop:o.op = .nilCheck x)(hx:ev env x=some (.pointer (some a))):OD P o n env W own (.pointer (some a)) own :=
  .of fun a w hf _=>by simp[execOp,hop,hf.ev hx]
end
open Go.ChangeShapes Go.WideShapes Go.ChangeAt Go.RowKit Go.Deep Go.Joins
theorem Tryz.own:ownKnob Tryz.prog.godebug=none:=by kernel_rfl
theorem Tryz.laidOut:laidOutB Tryz.prog=true:=by kernel_rfl
section
variable {H:Type}{enc:TypeId × Value→H}{P:Program}{w:World}
theorem Nf {t e:TypeId}(ht:P.underlying t=some (.slice e))(he:P.underlying e=some (.int .i64))(hc:P.cellsOf e=1){fuel:Nat}{v:Value}{x:DataW H × List MemPlace}
    (h:DataW.trod enc P w 0 (fun _=>true) true fuel t [v]=some x):∃ xs,Ints w v xs∧∀ n∈xs,(Lit.int .i64 n).wf=true:=by
  rcases open_ints ht he hc h with⟨hcs,_⟩ | ⟨a,len,cap,zs,hcs,_,hl,hm,hz,_,hcell,hwz⟩
  · simp at hcs
    subst hcs
    exact⟨[],Sl.nil w 1,by simp⟩
  · simp at hcs
    subst hcs
    simp only[if_true] at hz
    have hlen:(zs.take len).length=len:=by simp;omega
    refine⟨zs.take len,⟨by simp,some a,cap,by rw[hlen],by omega,hm,(fun h=>by cases h),fun hpos=>?_⟩,fun n hn=>hwz n (List.mem_of_mem_take hn)⟩
    rw[hlen] at hpos
    obtain⟨b,off,spot⟩:=a
    have hspot:spot=none:=by simpa [Addr.add] using World.cell?_spot (hcell 0 (by omega))
    subst hspot
    refine⟨b,off,rfl,by have:=World.block_lt_of_cell? w _ (hcell 0 (by omega));simpa [Addr.add] using this,fun k hk=>?_⟩
    rw[hlen,Nat.mul_one] at hk
    rw[← add_plain,hcell k (by omega)]
    simp[List.getD,hk,show k<zs.length by omega]
end
theorem ba {w:World}{v:Value}{xs:List Int}(h:Ints w v xs):Ab v:=by
  obtain⟨_,ao,cap,rfl,_⟩:=h
  exact⟨_,_,_,rfl⟩
theorem dw {w:World}{v:Value}{xs:List Int}(h:Ints w v xs):xs.length≤9223372036854775807:=by
  have:=Sl.size_le h
  simpa [maxLen] using this
section
variable {H:Type}{enc:TypeId × Value→H}{P:Program}{w:World}
end
theorem Tryz.cellsInt:Tryz.prog.cellsOf 3=1:=by kernel_rfl
theorem Tryz.cellsCartan:Tryz.prog.cellsOf 24=2:=by kernel_rfl
theorem Pb {H:Type}{enc:TypeId × Value→H}{w:World}{base:Nat}{v:Value}{d:DataW H}{p:List MemPlace}
    (hv:Value.okWide Tryz.prog w .any base 24 v) (h:DataW.Trod enc Tryz.prog w 0 (fun _=>true) true 24 v d p):∃ k0 v1 xs,v = .agg #[.int .i64 k0,v1]∧Ints w v1 xs∧((Lit.int .i64 k0).wf=true∧∀ n∈xs,(Lit.int .i64 n).wf=true):=by
  obtain⟨v0,v1,y0,y1,n,rfl,_,_,h0,h1⟩:=open_agg2 Tryz.underlying24 (by kernel_rfl) Tryz.cellsCartan hv h
  obtain⟨k0,e0,hw0⟩:=DataW.trod_int Tryz.underlying3 h0
  obtain⟨xs,hI,hw⟩:=Nf Tryz.underlying22 Tryz.underlying3 Tryz.cellsInt h1
  simp only[List.cons.injEq,and_true] at e0
  subst e0
  exact⟨k0,v1,xs,rfl,hI,hw0.2,hw⟩
theorem TU {W0:World}{a:Addr}{v:Value}(h:W0.cell? a=some v):Ent [frozen W0] fun w=>w.cell? a=some v:=fun W w hs=>by
  have hf:=(A4 hs).2
  rw[← h]
  have hlt:a.block<W0.heap.size:=by
    rcases Nat.lt_or_ge a.block W0.heap.size with h1 | h1
    · exact h1
    · have hn:W0.heap[a.block]?=none:=by simp[h1]
      simp[World.cell?,hn] at h
  simp only[World.cell?,hf a.block hlt]
theorem O3 {W0:World}(h:W0.ShapedOpen Tryz.prog):Ent [frozen W0] fun w=>∃ m,w.cell? ⟨Tryz.l146_ren.g 1,0,none⟩=some (.int .i64 m):=fun W w hs=>by
  obtain⟨m,hm⟩:=Tryz.l146.s1_3 W0 h
  exact⟨m,TU hm W w hs⟩
theorem OO {C:Checked}{os:Os}{f:FuncId}{fn:Func}{s:ChangeSpec}{apart:Bool}{X:World→Prop}(hXw:∀ w w':World,w.heap=w'.heap→X w→X w'){H:Type}{enc:TypeId × Value→H}
    (own:ownKnob C.prog.godebug=none) (started:os.Started) (noInit:C.prog.inits.idxOf? f=none) (hfn:C.prog.funcs[f]?=some fn)
    (witness:∃ (w:World) (tape:Tape) (i:Input),w.os=os∧(w.forCall tape i).Shaped C.prog∧i.vars = []∧Input.okWide C.prog (w.forCall tape i) .any w.heap.size f i ∧
      ((s.pre enc C.prog fn [] apart (w.forCall tape i).memory i.args∧X (w.forCall tape i).memory)∧sizedMet enc C.prog fn (OpenSpec.ofChange s) apart (w.forCall tape i).memory i.args)∧({}:Assume).holds C.prog (lone (Frame.enter C.prog f i.args .normal) [] (w.forCall tape i)))
    (contract:∀ (W:World) (base:Nat) (args:Array Value) (ds gs:List (DataW H)) (before:List MemPlace),(∀ (j:Nat) t v,fn.params[j]?=some t→args[j]?=some v→Value.okWide C.prog W .any base t v) →
      DataW.Whole enc C.prog fn.params.toList s.vars apart W args.toList ds gs before→W.ShapedOpen C.prog→X W→Calls C.prog f args W fun e W'=>∃ v,e = .returned v∧s.post enc C.prog fn apart true false false W args v W') :
    ReturnsInHanded {} C os f .any (fun w args=>(s.pre enc C.prog fn [] apart w args∧X w)∧sizedMet enc C.prog fn (OpenSpec.ofChange s) apart w args) (s.post enc C.prog fn apart true false false) :=
  returnsInHanded_of_calls own started noInit witness fun w tape i _ hsh _ hok hpre _=>by
    obtain⟨_,_,_,fn',hfn',_,_,_,_,hval⟩:=hok
    cases Option.some.inj (hfn'.symm.trans hfn)
    obtain⟨⟨⟨ds,gs,before,hw,_⟩,hx⟩,_⟩:=hpre
    refine(contract _ _ i.args ds gs before hval (DataW.Whole.of_heap (w':=w.forCall tape i) (by rfl) hw) hsh (hXw _ _ (by rfl) hx)).mono ?_
    rintro _ W' ⟨v,rfl,hp⟩
    exact ChangeSpec.post_blind hp
theorem NS {P:Program}{W:World}{name:String}{k:IntKind}{zs:List Int}{a b:String × DataW Unit}{rest:List (String × DataW Unit)}{g:Nat}{t e:TypeId}{n:Nat}
    (hg:P.globalNamed name=some g) (hty:(P.globals[g]?).map (·.type)=some t) (ht:P.underlying t=some (.array n e)) (he:P.underlying e=some (.int k)) (hce:P.cellsOf e=1) (hct:P.cellsOf t=n)
    (h:laidMet P (a::b::(name,Lib.tabData k zs)::rest) W):Lib.TabIs P W name k zs:=by
  obtain⟨ps,h1,_⟩:=h
  obtain⟨_,_,_,_,_,_,_,_,_,_,h2,_⟩:=h1
  obtain⟨_,_,_,_,_,_,_,_,_,_,h3,_⟩:=h2
  obtain⟨g',t',cs,fuel,p,q,hg',ht',hvar,hd,_,_⟩:=h3
  obtain rfl:=Option.some.inj (hg.symm.trans hg')
  obtain rfl:=Option.some.inj (hty.symm.trans ht')
  unfold Lib.TabIs
  rw[hvar,← Lib.cells_of_tab ht he hce hct hd]
theorem Xm {P:Program}{W0:World}{n:String}{g:Nat}{k:IntKind}{zs:List Int}(hg:P.globalNamed n=some g)(h:Lib.TabIs P W0 n k zs):Ent [frozen W0] fun w=>Lib.TabIs P w n k zs:=fun W w hs=>by
  have hf:=(A4 hs).2
  unfold Lib.TabIs World.var? at h ⊢
  rw[hg] at h ⊢
  simp only[Option.bind_some] at h ⊢
  have hlt:g<W0.heap.size:=by
    rcases Nat.lt_or_ge g W0.heap.size with h' | h'
    · exact h'
    · rw[Array.getElem?_eq_none h'] at h;cases h
  rw[hf g hlt]
  exact h
theorem eZ:Tryz.prog.globalNamed "internal/strconv.uint64pow10" = some 1:=by kernel_rfl
theorem fM:(Tryz.prog.globals[1]?).map (·.type)=some 222:=by kernel_rfl
theorem ZL {W0:World}{rest:List (String × DataW Unit)}{a b:String × DataW Unit}(h:laidMet Tryz.prog (a::b::("internal/strconv.uint64pow10",Lib.tabData .u64 Lib.pow10Tab)::rest) W0):Ent [frozen W0] Cm :=
  Xm eZ (NS eZ fM Tryz.underlying222 Tryz.underlying191 (by kernel_rfl) (by kernel_rfl) h)
section
variable {H:Type}{enc:TypeId × Value→H}{P:Program}{w:World}
end
theorem ND {W:World}{own:List Asn}{n:Int}(hn:dt n)(htab:Ent own Cm):Spec Tryz.prog 152 [J (n)] W own (fun v ow=>v = .string (DU n)∧ow=own):=by
 refine Spec.enter Tryz.f152 _ Tryz.func152 rfl (n:=5) rfl rfl ?_
 refine Zs (Zr (Za rfl (Zn (Zt (Zs (Zr (Zm rfl (Yt (Yc [J (n)] bK (by exact(bM (hn) (htab)))) ?_))))))))
 rintro _ _ ⟨rfl,hzz⟩;obtain rfl:=hzz.symm
 refine Za rfl (Zn (Zt (GC.ret ?_)))
 exact GE.body [] 0 (Ao rfl rfl) rfl (⟨rfl,rfl⟩)
theorem Ba {W:World}{own:List Asn}{vx:Value}{x:List Int}(sx:Ab vx)(ex:Ent own fun w=>Ints w vx x)(hr:All64 x)(hl:x.length≤1000)(htab:Ent own Cm):Spec Tryz.prog 98 [vx] W own (fun v ow=>v = .string (Ca x)∧ow=own):=by
 refine Spec.enter Tryz.f98 _ Tryz.func98 rfl (n:=21) rfl rfl ?_
 refine Zs (Zr (Za rfl (Zn (Zt (Zs (Zr (Yt (OG.buildStrs (os:=[]) (xs:=[]) rfl Bk rfl rfl rfl rfl rfl) ?_)))))))
 rintro v1 _ ⟨hs2,rfl⟩
 refine Za rfl (Zn (Zt (Zs (Zs (Zr (Zm rfl (Zd (Qn Ac (Ent.drop 1 ex)) rfl ?_)))))))
 refine Zm rfl (Zn (Zt (GC.block ?_)))
 refine Yl (ι:=Nat × List ByteArray × Value) (fun⟨k,ws,v⟩=>[(7,vx),(8,J ((x.length:Nat))),(3,v),(9,J ((k:Int)))]) (fun⟨k,ws,v⟩=>strs 9 v ws::own) (fun⟨k,ws,v⟩=>(k≤x.length)∧(Ab v)∧(ws=(x.take k).map DU)) (fun⟨k,ws,v⟩=>x.length - k) (0,[],v1) (⟨by omega,hs2,rfl⟩) [] 0 ?_
 rintro⟨k,ws,v⟩ ⟨hk,hv,hw⟩
 have hwl:ws.length=k:=by rw[hw];simp;omega
 refine Zs (Zr (Zd Bb rfl ?_))
 refine Zn (Zt (Zs ?_))
 refine GC.cond rfl (fun hc3=>?_) (fun hc3=>?_)
 replace hc3:=of_decide_eq_true hc3
 refine Zk (Zt (Zs (GC.block (Zs (Zr ?_)))))
 refine Zd (Qi Ac (Ent.drop 1 ex)) rfl ?_
 refine Zd (Qv Ak (Ent.drop 1 ex)) rfl ?_
 refine Za rfl (Zn (Zt (Zr (Zm rfl (Zm rfl (Yt (Yc [J (x.getD (k) 0)] bx (by exact(ND (hr.get (by omega)) ((Ent.drop 1 htab))))) ?_))))))
 rintro _ _ ⟨rfl,rfl⟩
 refine Yt (OG.buildStrs (os:=[.tmp 15]) (xs:=[DU (x.getD (k) 0)]) rfl Bk rfl rfl rfl rfl rfl) ?_
 rintro v4 _ ⟨hs5,rfl⟩
 refine Yt (OG.appendStrs 1 rfl rfl Bk rfl rfl rfl (Ent.strs (i:=0) rfl) (by simp[maxLen] <;> omega)) ?_
 rintro v6 _ ⟨hs7,rfl⟩
 refine Za rfl (Zn (GE.blockN (Zt (Zr ?_))))
 refine Zd Qp rfl ?_
 exact Zm rfl (Zn (Yg (k+1,ws++[DU (x.getD (k) 0)],v6) (⟨by omega,hs7,by rw[hw];exact R7 (by omega)⟩) [1] 1))
 replace hc3:=of_decide_eq_false hc3
 have hwx:ws=x.map DU:=by rw[hw,List.take_of_length_le (by omega)]
 refine GC.exit (Zp (Zp (GE.hit (Zt (Zs (Zr ?_))))))
 refine Zm rfl (G.ownEq (own':=strs 9 v (x.map DU)::own) (by rw[hwx] <;> rfl) ?_)
 skip
 refine Yt (Yc [v,.string (⟨#[32]⟩)] UE (by exact(XH hv (Ent.strs (i:=0) rfl) (hr) (by omega)))) ?_
 rintro _ _ ⟨rfl,rfl⟩
 refine Za rfl (Zn (Zt (GC.ret ?_)))
 exact GE.body [] 1 (Ao rfl rfl) rfl (⟨rfl,rfl⟩)
theorem BA {W:World}{own:List Asn}{vx:Value}{x:List Int}(sx:Ab vx)(ex:Ent own fun w=>Ints w vx x)(hb:∀ k,k<x.length → -1000≤x.getD k 0∧x.getD k 0≤1000)(hl:x.length≤1073741824):Spec Tryz.prog 80 [vx] W own (fun v ow=>∃ (r0:Value),v=r0∧Ab r0∧ow=ints 3 r0 (Av x)::own):=by
 refine Spec.enter Tryz.f80 _ Tryz.func80 rfl (n:=23) rfl rfl ?_
 refine Zs (Zr (Za rfl (Zn (Zt (Zs (Zr (Zm rfl (Zd (Qn Ac ex) rfl ?_))))))))
 refine Yt (OG.makeInts rfl Ac rfl rfl (by omega)) ?_
 rintro v1 _ ⟨hs2,rfl⟩
 refine Za rfl (Zn (Zt (Zs (Zs (Zr (Za rfl (Zn (Zt (GC.block ?_)))))))))
 refine Yl (ι:=Nat × List Int) (fun⟨k,ys⟩=>[(0,vx),(3,v1),(4,J ((k:Int)))]) (fun⟨k,ys⟩=>ints 3 v1 ys::own) (fun⟨k,ys⟩=>(k≤x.length)∧(ys.length=x.length)∧(ys=(List.range k).foldl (fun(o:List Int) (i:Nat)=>o.set i (0 - x.getD i 0)) (List.replicate x.length 0))) (fun⟨k,ys⟩=>x.length - k) (0,(List.replicate x.length 0)) (⟨by omega,by simp,rfl⟩) [] 0 ?_
 rintro⟨k,ys⟩ ⟨hk,hyl,hy⟩
 refine Zs (Zs (Zr (Zm rfl (Zm rfl (Zd (Qn Ac (Ent.drop 1 ex)) rfl ?_)))))
 refine Zd Bb rfl ?_
 refine Zn (Zt ?_)
 refine GC.cond rfl (fun hc3=>?_) (fun hc3=>?_)
 replace hc3:=of_decide_eq_true hc3
 have hbk:=hb k (by omega)
 have hbk0:=hb (k:Int).toNat (by omega)
 refine Zk (Zt (Zs (GC.block (Zr ?_))))
 refine Zm rfl (Zm rfl (Zm rfl (Zm rfl (Zd (Qi Ac (Ent.drop 1 ex)) rfl ?_))))
 refine Zd (Qv Ak (Ent.drop 1 ex)) rfl ?_
 refine Zd Qs rfl ?_
 refine Zd (Qi Ac (Ei 0)) rfl ?_
 refine G.stepD0 (OD.storeInt rfl Ak rfl rfl (i:=0) rfl (by omega)) rfl rfl ?_
 refine Zn (GE.blockN (Zt (Zr ?_)))
 refine Zm rfl (Zd (OD.addI rfl rfl rfl (by first | omega | (simp only[List.length_set,List.length_replicate];omega))) rfl ?_)
 exact Za rfl (Zn (Yg (k+1,(ys).set (k) (0 - (x.getD (k) 0))) (⟨by omega,by rw[List.length_set];exact hyl,Ar hy rfl⟩) [] 0))
 replace hc3:=of_decide_eq_false hc3
 refine GC.exit (Zp (Zp (GE.hit (Zt (Zs (Zr ?_))))))
 refine Zm rfl (Za rfl (Zn (Zt (GC.ret ?_))))
 exact GE.body [] 0 (Ao rfl rfl) rfl (⟨v1,rfl,hs2,congrArg (fun l0=>ints 3 v1 l0::own) ((by rw[hy,show k=x.length by omega];exact Xz:ys=Av x))⟩)
theorem BQ {W:World}{own:List Asn}{vx:Value}{x:List Int}{k:Int}{vy:Value}{y:List Int}(sx:Ab vx)(ex:Ent own fun w=>Ints w vx x)(sy:Ab vy)(ey:Ent own fun w=>Ints w vy y)(hl:x.length≤1073741824)(hle:y.length≤x.length):Spec Tryz.prog 68 [vx,J (k),vy] W own (fun v ow=>∃ (r0:Value),v=r0∧Ab r0∧ow=ints 3 r0 (Af x k y)::own):=by
 refine Spec.enter Tryz.f68 _ Tryz.func68 rfl (n:=30) rfl rfl ?_
 refine Zs (Zr (Za rfl (Zn (Zt (Zs (Zr (Zm rfl (Yt (Yc [vx] V8 (by exact(Rb sx ex (hl)))) ?_))))))))
 rintro v1 _ ⟨_,rfl,hs2,rfl⟩
 refine Za rfl (Zn (Zt (Zs (Zs (Zr (Zm rfl (Zd (Qn Ac (Ent.drop 1 ey)) rfl ?_)))))))
 refine Zm rfl (Zn (Zt (GC.block ?_)))
 refine Yl (ι:=Nat × List Int) (fun⟨i,ys⟩=>[(1,J (k)),(7,v1),(12,vy),(13,J ((y.length:Nat))),(14,J ((i:Int)))]) (fun⟨i,ys⟩=>ints 3 v1 ys::own) (fun⟨i,ys⟩=>(i≤y.length)∧(ys.length=x.length)∧(ys=(List.range i).foldl (fun(o:List Int) (i:Nat)=>o.set i (IntKind.i64.wrap (o.getD i 0+IntKind.i64.wrap (k*y.getD i 0)))) x)) (fun⟨i,ys⟩=>y.length - i) (0,x) (⟨by omega,rfl,rfl⟩) [] 0 ?_
 rintro⟨i,ys⟩ ⟨hi,hyl,hy⟩
 refine Zs (Zr (Zd Bb rfl ?_))
 refine Zn (Zt (Zs ?_))
 refine GC.cond rfl (fun hc3=>?_) (fun hc3=>?_)
 replace hc3:=of_decide_eq_true hc3
 refine Zk (Zt (Zs (GC.block (Zs (Zr ?_)))))
 refine Zm rfl (Zd (Qi Ac (Ent.drop 1 ey)) rfl ?_)
 refine Zd (Qv Ak (Ent.drop 1 ey)) rfl ?_
 refine Za rfl (Za rfl (Zn (Zt (Zr (Zm rfl (Zm rfl (Zd (Qi Ac (Ei 0)) rfl ?_)))))))
 refine Zd (Qv Ak (Ei 0)) rfl ?_
 refine Zm rfl (Zm rfl (Zd CN rfl ?_))
 refine Zd Ha rfl ?_
 refine Zd (Qi Ac (Ei 0)) rfl ?_
 refine G.stepD0 (OD.storeInt rfl Ak rfl rfl (i:=0) rfl (by omega)) rfl rfl ?_
 refine Zn (GE.blockN (Zt (Zr ?_)))
 refine Zd (OD.addI rfl rfl rfl (by first | omega | (simp only[List.length_set,List.length_replicate];omega))) rfl ?_
 exact Zm rfl (Zn (Yg (i+1,(ys).set (i) (IntKind.i64.wrap ((ys.getD (i) 0)+(IntKind.i64.wrap (k*(y.getD (i) 0)))))) (⟨by omega,by rw[List.length_set];exact hyl,Ar hy rfl⟩) [] 0))
 replace hc3:=of_decide_eq_false hc3
 refine GC.exit (Zp (Zp (GE.hit (Zt (Zs (Zr ?_))))))
 refine Zm rfl (Za rfl (Zn (Zt (GC.ret ?_))))
 exact GE.body [] 0 (Ao rfl rfl) rfl (⟨v1,rfl,hs2,congrArg (fun l0=>ints 3 v1 l0::own) ((by rw[hy,show i=y.length by omega];rfl:ys=Af x k y))⟩)
theorem Bs {W:World}{own:List Asn}{k:Int}{vy:Value}{y:List Int}(sy:Ab vy)(ey:Ent own fun w=>Ints w vy y)(hl:y.length≤1073741824):Spec Tryz.prog 54 [J (k),vy] W own (fun v ow=>∃ (r0:Value),v=r0∧Ab r0∧ow=ints 3 r0 (Af (List.replicate y.length 0) k y)::own):=by
 refine Spec.enter Tryz.f54 _ Tryz.func54 rfl (n:=11) rfl rfl ?_
 refine Zs (Zr (Za rfl (Zn (Zt (Zs (Zr (Zm rfl (Zd (Qn Ac ey) rfl ?_))))))))
 refine Yt (OG.makeInts rfl Ac rfl rfl (by omega)) ?_
 rintro v1 _ ⟨hs2,rfl⟩
 refine Zm rfl (Zm rfl (Yt (Yc [v1,J (k),vy] Gx (by exact(BQ hs2 (Ei 0) sy (Ent.drop 1 ey) (by rw[List.length_replicate];omega) (by rw[List.length_replicate];omega)))) ?_))
 rintro v3 _ ⟨_,rfl,hs4,rfl⟩
 refine Za rfl (Zn (Zt (GC.ret ?_)))
 exact GE.body [0] 1 (Ao rfl rfl) rfl (⟨v3,rfl,hs4,rfl⟩)
end Go.Proofs.YtbmnnbglipkidaaGreatDoor
