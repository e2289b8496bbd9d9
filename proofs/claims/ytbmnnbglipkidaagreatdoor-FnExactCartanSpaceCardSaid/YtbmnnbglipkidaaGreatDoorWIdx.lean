/-
  Whether a list is a root: contracts by walks.
-/
import Derived.Test.YtbmnnbglipkidaaGreatDoorFct
import Derived.Test.YtbmnnbglipkidaaGreatDoorWNewA
namespace Go.Proofs.YtbmnnbglipkidaaGreatDoor
set_option linter.unusedVariables false
set_option linter.unusedSimpArgs false
open Go.RowKit
set_option maxRecDepth 100000 in
theorem index_w {W:World}{own:List Asn}{rr:Int}{vrd:Value}{vrs:Value}{urs:List Value}{rs:Nat}{grm:Nat}{rm:List (List Int × Int)}{vx:Value}{x:List Int}(srd:IsS vrd)(srs:IsS vrs)(ers:Ent own fun w=>Sl w vrs rs 1 urs)(hrm:Ent own (MapIs keyL valI grm rm))(sx:IsS vx)(ex:Ent own fun w=>Ints w vx x)(hrr:rr≤4)(hx:All64 x)(hxl:x.length≤1073741824)(htab:Ent own Pow10)(hrr1:0≤rr)(hrs:rs≤30)(hfp:0≤fdP rr rm x∧fdP rr rm x≤30):Spec Tryz.prog 70 [.agg #[.int .i64 (rr),vrd,vrs,.map (some grm)],vx] W own (fun v ow=>v = .int .i64 (fdI rr rs rm x)∧ow=own):=by
 refine Spec.enter Tryz.f70 _ Tryz.func70 rfl (n:=30) rfl rfl ?_
 refine Zs (Zr (G.step (OG.box (cs:=[.int .i64 (rr),vrd,vrs,.map (some grm)]) rfl rfl rfl) rfl rfl rfl ?_))
 rintro _ _ ⟨g1,rfl,rfl⟩
 refine Za rfl (Zn (Zt (Zs (Zr (Zd (OD.loadAgg rfl ti64 rfl (i:=0) rfl (us:=[.int .i64 (rr),vrd,vrs,.map (some grm)]) rfl rfl) rfl ?_)))))
 refine Zm rfl (G.step (OG.call [.agg #[.int .i64 (rr),vrd,vrs,.map (some grm)],vx] ent117 rfl rfl rfl rfl (by exact(find_w srd srs (Ent.drop 1 ers) (Ent.drop 1 hrm) sx (Ent.drop 1 ex) (hrr) (hx) (hxl) ((Ent.drop 1 htab))))) rfl rfl rfl ?_)
 rintro _ _ ⟨rfl,rfl⟩
 refine Zm rfl (Zd (OD.extract rfl rfl rfl) rfl ?_)
 refine Zd (OD.extract rfl rfl rfl) rfl ?_
 refine Zd (OD.extract rfl rfl rfl) rfl ?_
 refine Za rfl (Za rfl (Za rfl (Zn (Zt (Zs (GC.block (Zs (Zr ?_))))))))
 refine Zm rfl (Zd (OD.not rfl rfl) rfl ?_)
 refine Za rfl (Zn (Zt ?_))
 refine GC.cond rfl (fun hc2=>?_) (fun hc2=>?_)
 replace hc2:=eq_false_of_not hc2
 refine Zs (Zr (Za rfl (Zn (Zt (GC.ret (GE.blockR (GE.passR ?_)))))))
 exact GE.body [] 1 (res1 rfl rfl) rfl (⟨congrArg (fun(a0:Int)=>(.int .i64 (a0):Value)) ((by simp[fdI,hc2]:(-1:Int)=fdI rr rs rm x)),rfl⟩)
 replace hc2:=eq_true_of_not hc2
 refine Zs (Zr (Zm rfl (Za rfl (Zn (Zt ?_)))))
 refine GC.cond rfl (fun hc3=>?_) (fun hc3=>?_)
 refine Zs (Zr (Zm rfl (Za rfl (Zn (Zt (GC.ret (GE.blockR (GE.passR ?_))))))))
 exact GE.body [] 1 (res1 rfl rfl) rfl (⟨congrArg (fun(a0:Int)=>(.int .i64 (a0):Value)) ((by simp[fdI,hc2,hc3]:(fdP rr rm x:Int)=fdI rr rs rm x)),rfl⟩)
 refine Zk (GE.blockN (Zt (Zs (Zr ?_))))
 refine Zd (OD.fieldAddr rfl rfl fa64_1) rfl ?_
 refine Zd (OD.load rfl ti60 rfl (i:=0) rfl rfl) rfl ?_
 refine Zd (OD.len rfl rfl et60 rfl (Ent.drop 1 ers)) rfl ?_
 refine Zd (OD.fieldAddr rfl rfl fa64_0) rfl ?_
 refine Zd (OD.fieldAddr rfl rfl fa27_0) rfl ?_
 refine Zd (OD.load rfl ti3 rfl (i:=0) rfl rfl) rfl ?_
 refine Zd (OD.addI rfl rfl rfl (by omega)) rfl ?_
 refine Zm rfl (Zd (OD.addI rfl rfl rfl (by omega)) rfl ?_)
 refine Za rfl (Zn (Zt (GC.ret ?_)))
 exact GE.body [] 1 (res1 rfl rfl) rfl (⟨congrArg (fun(a0:Int)=>(.int .i64 (a0):Value)) ((by simp[fdI,hc2,hc3,hc3]:(((rs:Nat)+rr)+(fdP rr rm x):Int)=fdI rr rs rm x)),rfl⟩)
end Go.Proofs.YtbmnnbglipkidaaGreatDoor
