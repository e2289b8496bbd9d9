/-
  Whether a list is a root: contracts by walks.
-/
import Derived.Test.YtbmnnbglipkidaaGreatDoorFct
import Derived.Test.YtbmnnbglipkidaaGreatDoorWNewA
namespace Go.Proofs.YtbmnnbglipkidaaGreatDoor
set_option maxRecDepth 100000
set_option linter.unusedVariables false
set_option linter.unusedSimpArgs false
open Go.RowKit
theorem index_w {W:World}{own:List Asn}{rr:Int}{vrd:Value}{vrs:Value}{urs:List Value}{rs:Nat}{grm:Nat}{rm:List (List Int × Int)}{vx:Value}{x:List Int}(srd:IsS vrd)(srs:IsS vrs)(ers:Ent own fun w=>Sl w vrs rs 1 urs)(hrm:Ent own (MapIs keyL valI grm rm))(sx:IsS vx)(ex:Ent own fun w=>Ints w vx x)(hrr:rr≤4)(hx:All64 x)(hxl:x.length≤1073741824)(htab:Ent own Pow10)(hrr1:0≤rr)(hrs:rs≤30)(hfp:0≤fdP rr rm x∧fdP rr rm x≤30):Spec Tryz.prog 70 [.agg #[.int .i64 (rr),vrd,vrs,.map (some grm)],vx] W own (fun v ow=>v = .int .i64 (fdI rr rs rm x)∧ow=own):=by
 refine Spec.enter Tryz.f70 _ Tryz.func70 rfl (n:=30) rfl rfl ?_
 refine Zs (Zr (G.step (OG.box (cs:=[.int .i64 (rr),vrd,vrs,.map (some grm)]) rfl rfl rfl) rfl rfl rfl ?_))
 rintro _ _ ⟨g1,rfl,rfl⟩
 refine Za rfl (Zn (Zt (Zs (Zr (Zd (OD.loadAgg rfl ti64 rfl (i:=0) rfl (us:=[.int .i64 (rr),vrd,vrs,.map (some grm)]) rfl rfl) rfl ?_)))))
 refine Zm rfl (G.step (OG.call [.agg #[.int .i64 (rr),vrd,vrs,.map (some grm)],vx] ent117 rfl rfl rfl rfl (by exact(find_w srd srs (Ent.drop 1 ers) (Ent.drop 1 hrm) sx (Ent.drop 1 ex) (hrr) (hx) (hxl) ((Ent.drop 1 htab))))) rfl rfl rfl ?_)
 rintro _ _ ⟨rfl,rfl⟩
 refine Zm rfl (Zd (OD.extract rfl rfl rfl) rfl ?_)
 refine Zd (OD.extract rfl rfl rfl) rfl ?_
 refine Zd (OD.extract rfl rfl rfl) rfl ?_
 refine Za rfl (Za rfl (Za rfl (Zn (Zt (Zs (GC.block (Zs (Zr ?_))))))))
 refine Zm rfl (Zd (OD.not rfl rfl) rfl ?_)
 refine Za rfl (Zn (Zt ?_))
 refine GC.cond rfl (fun hc2=>?_) (fun hc2=>?_)
 replace hc2:=eq_false_of_not hc2
 refine Zs (Zr (Za rfl (Zn (Zt (GC.ret (GE.blockR (GE.passR ?_)))))))
 exact GE.body [] 1 (res1 rfl rfl) rfl (⟨congrArg (fun(a0:Int)=>(.int .i64 (a0):Value)) ((by simp[fdI,hc2]:(-1:Int)=fdI rr rs rm x)),rfl⟩)
 replace hc2:=eq_true_of_not hc2
 refine Zs (Zr (Zm rfl (Za rfl (Zn (Zt ?_)))))
 refine GC.cond rfl (fun hc3=>?_) (fun hc3=>?_)
 refine Zs (Zr (Zm rfl (Za rfl (Zn (Zt (GC.ret (GE.blockR (GE.passR ?_))))))))
 exact GE.body [] 1 (res1 rfl rfl) rfl (⟨congrArg (fun(a0:Int)=>(.int .i64 (a0):Value)) ((by simp[fdI,hc2,hc3]:(fdP rr rm x:Int)=fdI rr rs rm x)),rfl⟩)
 refine Zk (GE.blockN (Zt (Zs (Zr ?_))))
 refine Zd (OD.fieldAddr rfl rfl fa64_1) rfl ?_
 refine Zd (OD.load rfl ti60 rfl (i:=0) rfl rfl) rfl ?_
 refine Zd (OD.len rfl rfl et60 rfl (Ent.drop 1 ers)) rfl ?_
 refine Zd (OD.fieldAddr rfl rfl fa64_0) rfl ?_
 refine Zd (OD.fieldAddr rfl rfl fa27_0) rfl ?_
 refine Zd (OD.load rfl ti3 rfl (i:=0) rfl rfl) rfl ?_
 refine Zd (OD.addI rfl rfl rfl (by omega)) rfl ?_
 refine Zm rfl (Zd (OD.addI rfl rfl rfl (by omega)) rfl ?_)
 refine Za rfl (Zn (Zt (GC.ret ?_)))
 exact GE.body [] 1 (res1 rfl rfl) rfl (⟨congrArg (fun(a0:Int)=>(.int .i64 (a0):Value)) ((by simp[fdI,hc2,hc3,hc3]:(((rs:Nat)+rr)+(fdP rr rm x):Int)=fdI rr rs rm x)),rfl⟩)
theorem l7Index_w {W:World}{own:List Asn}{cr:Int}{vcd:Value}{cd:List Int}{vL:Value}{uL:List Value}{L:List (List Int)}{vx:Value}{x:List Int}(scd:IsS vcd)(ecd:Ent own fun w=>Ints w vcd cd)(sL:IsS vL)(eL:Ent own fun w=>Sl w vL L.length 1 uL)(mL:∀ k,k<L.length→Ent own fun w=>Ints w (uL.getD k undef) (L.getD k []))(lL:uL.length=L.length)(aL:AllS uL)(sx:IsS vx)(ex:Ent own fun w=>Ints w vx x)(hcr:1≤cr∧cr≤4)(hll:L.length≤1073741824)(hle:∀ k,k<L.length→(L.getD k []).length≤1073741824)(hb:∀ k,k<x.length → -1000≤x.getD k 0∧x.getD k 0≤1000)(hl:x.length≤1073741824):Spec Tryz.prog 78 [.agg #[.int .i64 (cr),vcd],vL,vx] W own (fun v ow=>v = .int .i64 (l7I cr L x)∧ow=own):=by
 refine Spec.enter Tryz.f78 _ Tryz.func78 rfl (n:=27) rfl rfl ?_
 refine Zs (Zr (G.step (OG.box (cs:=[.int .i64 (cr),vcd]) rfl rfl rfl) rfl rfl rfl ?_))
 rintro _ _ ⟨g1,rfl,rfl⟩
 refine Za rfl (Zn (Zt (Zs (Zr (Zm rfl (Zm rfl (G.step (OG.call [vL,vx] ent96 rfl rfl rfl rfl (by exact(l5Place_w sL (Ent.drop 1 eL) (fun k hk=>(Ent.drop 1 (mL k hk))) lL aL sx (Ent.drop 1 ex) (hll) (hle)))) rfl rfl rfl ?_)))))))
 rintro _ _ ⟨rfl,rfl⟩
 refine Za rfl (Zn (Zt (Zs (Zs (Zr (Zm rfl (Zd (OD.geq rfl rfl rfl) rfl ?_)))))))
 refine Zn (Zt ?_)
 refine GC.cond rfl (fun hc2=>?_) (fun hc2=>?_)
 replace hc2:=of_decide_eq_true hc2
 have hpl0:=plF_len (L:=L) (x:=x)
 refine Zs (Zr (Zm rfl (Za rfl (Zn (Zt (GC.ret (GE.passR ?_)))))))
 exact GE.body [] 1 (res1 rfl rfl) rfl (⟨congrArg (fun(a0:Int)=>(.int .i64 (a0):Value)) ((by rw[l7I,if_pos hc2]:(plF L x:Int)=l7I cr L x)),rfl⟩)
 replace hc2:=of_decide_eq_false hc2
 have hpl0:=plF_len (L:=L) (x:=x)
 refine Zk (Zt (Zs (Zr (Zm rfl (Zm rfl (G.step (OG.call [vx] ent80 rfl rfl rfl rfl (by exact(l5Minus_w sx (Ent.drop 1 ex) (hb) (hl)))) rfl rfl rfl ?_))))))
 rintro v3 _ ⟨_,rfl,hs4,rfl⟩
 refine G.step (OG.call [vL,v3] ent96 rfl rfl rfl rfl (by exact(l5Place_w sL (Ent.drop 2 eL) (fun k hk=>(Ent.drop 2 (mL k hk))) lL aL hs4 (Ent.ints (i:=0) rfl) (hll) (hle)))) rfl rfl rfl ?_
 rintro _ _ ⟨rfl,rfl⟩
 refine Za rfl (Zn (Zt (Zs (Zs (Zr (Zm rfl (Zd (OD.lss rfl rfl rfl) rfl ?_)))))))
 refine Zn (Zt ?_)
 refine GC.cond rfl (fun hc5=>?_) (fun hc5=>?_)
 replace hc5:=of_decide_eq_true hc5
 have hpl:=plF_len (L:=L) (x:=mnF x)
 refine Zs (Zr (Za rfl (Zn (Zt (GC.ret (GE.passR ?_))))))
 exact GE.body [] 2 (res1 rfl rfl) rfl (⟨congrArg (fun(a0:Int)=>(.int .i64 (a0):Value)) ((by rw[l7I,if_neg hc2,if_pos hc5]:(-1:Int)=l7I cr L x)),rfl⟩)
 replace hc5:=of_decide_eq_false hc5
 have hpl:=plF_len (L:=L) (x:=mnF x)
 refine Zk (Zt (Zs (Zr (Zm rfl (Zd (OD.len rfl rfl et60 rfl (Ent.drop 2 eL)) rfl ?_)))))
 refine Zd (OD.fieldAddr rfl rfl fa27_0) rfl ?_
 refine Zd (OD.load rfl ti3 rfl (i:=1) rfl rfl) rfl ?_
 refine Zd (OD.addI rfl rfl rfl (by omega)) rfl ?_
 refine Zm rfl (Zd (OD.addI rfl rfl rfl (by omega)) rfl ?_)
 refine Za rfl (Zn (Zt (GC.ret ?_)))
 exact GE.body [] 2 (res1 rfl rfl) rfl (⟨congrArg (fun(a0:Int)=>(.int .i64 (a0):Value)) ((by rw[l7I,if_neg hc2,if_neg hc5]:(((L.length:Nat)+cr)+(plF L (mnF x)):Int)=l7I cr L x)),rfl⟩)
end Go.Proofs.YtbmnnbglipkidaaGreatDoor
