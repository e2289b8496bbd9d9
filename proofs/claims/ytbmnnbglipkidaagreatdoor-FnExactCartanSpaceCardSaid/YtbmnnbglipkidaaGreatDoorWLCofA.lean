/-
  Strings, names and lists: contracts by walks through the code.
-/
import Derived.Test.YtbmnnbglipkidaaGreatDoorFct
import Derived.Test.YtbmnnbglipkidaaGreatDoorCarQ
namespace Go.Proofs.YtbmnnbglipkidaaGreatDoor
set_option maxRecDepth 100000
set_option maxHeartbeats 4000000
set_option linter.unusedVariables false
set_option linter.unusedSimpArgs false
open Go.RowKit
theorem inside_w {W:World}{own:List Asn}{n:Int}{lo:Int}{hi:Int}:Spec Tryz.prog 84 [.int .i64 (n),.int .i64 (lo),.int .i64 (hi)] W own (fun v ow=>v = .bool (inB n lo hi)∧ow=own):=by
 refine Spec.enter Tryz.f84 _ Tryz.func84 rfl (n:=15) rfl rfl ?_
 refine Zs (Zr (Za rfl (Zn (Zt (Zs (Zr (Zm rfl (Zm rfl (Zd (OD.leq rfl rfl rfl) rfl ?_)))))))))
 refine Zm rfl ?_
 rcases Bool.eq_false_or_eq_true (decide (lo≤n)) with hg1 | hg1
 have hg1e:=hg1
 refine G.at [] 0 (env':=[(0,.int .i64 (n)),(1,.int .i64 (lo)),(2,.int .i64 (hi)),(6,.bool false),(7,.int .i64 (lo)),(8,.int .i64 (n)),(9,.bool true),(10,.bool true)]) (⟨rfl,rfl,rfl,rfl,rfl,rfl,(congrArg (fun b=>some (Value.bool b)) hg1e),(congrArg (fun b=>some (Value.bool b)) hg1e),trivial⟩) rfl ?_
 replace hg1:=of_decide_eq_true hg1
 refine G.stepGD (OD.move rfl rfl) rfl rfl rfl rfl rfl ?_
 refine G.stepGD (OD.move rfl rfl) rfl rfl rfl rfl rfl ?_
 refine G.stepGD (OD.leq rfl rfl rfl) rfl rfl rfl rfl rfl ?_
 refine Zd (OD.pickT rfl rfl rfl) rfl ?_
 refine Za rfl (Zn (Zt (GC.ret ?_)))
 exact GE.body [] 0 (res1 rfl rfl) rfl (⟨congrArg (fun(a0:Bool)=>(.bool (a0):Value)) ((by unfold inB;simp;omega:(decide (n≤hi):Bool)=inB n lo hi)),rfl⟩)
 have hg1e:=hg1
 refine G.at [] 0 (env':=[(0,.int .i64 (n)),(1,.int .i64 (lo)),(2,.int .i64 (hi)),(6,.bool false),(7,.int .i64 (lo)),(8,.int .i64 (n)),(9,.bool false),(10,.bool false)]) (⟨rfl,rfl,rfl,rfl,rfl,rfl,(congrArg (fun b=>some (Value.bool b)) hg1e),(congrArg (fun b=>some (Value.bool b)) hg1e),trivial⟩) rfl ?_
 replace hg1:=of_decide_eq_false hg1
 refine G.skipG rfl rfl rfl rfl rfl rfl (G.skipG rfl rfl rfl rfl rfl rfl (G.skipG rfl rfl rfl rfl rfl rfl ?_))
 refine Zd (OD.pickF rfl rfl rfl) rfl ?_
 refine Za rfl (Zn (Zt (GC.ret ?_)))
 exact GE.body [] 0 (res1 rfl rfl) rfl (⟨congrArg (fun(a0:Bool)=>(.bool (a0):Value)) ((by unfold inB;simp;omega:(false:Bool)=inB n lo hi)),rfl⟩)
theorem l1In_w {W:World}{own:List Asn}{n:Int}{lo:Int}{hi:Int}:Spec Tryz.prog 77 [.int .i64 (n),.int .i64 (lo),.int .i64 (hi)] W own (fun v ow=>v = .bool (inB n lo hi)∧ow=own):=by
 refine Spec.enter Tryz.f77 _ Tryz.func77 rfl (n:=15) rfl rfl ?_
 refine Zs (Zr (Za rfl (Zn (Zt (Zs (Zr (Zm rfl (Zm rfl (Zd (OD.geq rfl rfl rfl) rfl ?_)))))))))
 refine Zm rfl ?_
 rcases Bool.eq_false_or_eq_true (decide (lo≤n)) with hg1 | hg1
 have hg1e:=hg1
 refine G.at [] 0 (env':=[(0,.int .i64 (n)),(1,.int .i64 (lo)),(2,.int .i64 (hi)),(6,.bool false),(7,.int .i64 (n)),(8,.int .i64 (lo)),(9,.bool true),(10,.bool true)]) (⟨rfl,rfl,rfl,rfl,rfl,rfl,(congrArg (fun b=>some (Value.bool b)) hg1e),(congrArg (fun b=>some (Value.bool b)) hg1e),trivial⟩) rfl ?_
 replace hg1:=of_decide_eq_true hg1
 refine G.stepGD (OD.move rfl rfl) rfl rfl rfl rfl rfl ?_
 refine G.stepGD (OD.move rfl rfl) rfl rfl rfl rfl rfl ?_
 refine G.stepGD (OD.leq rfl rfl rfl) rfl rfl rfl rfl rfl ?_
 refine Zd (OD.pickT rfl rfl rfl) rfl ?_
 refine Za rfl (Zn (Zt (GC.ret ?_)))
 exact GE.body [] 0 (res1 rfl rfl) rfl (⟨congrArg (fun(a0:Bool)=>(.bool (a0):Value)) ((by unfold inB;simp;omega:(decide (n≤hi):Bool)=inB n lo hi)),rfl⟩)
 have hg1e:=hg1
 refine G.at [] 0 (env':=[(0,.int .i64 (n)),(1,.int .i64 (lo)),(2,.int .i64 (hi)),(6,.bool false),(7,.int .i64 (n)),(8,.int .i64 (lo)),(9,.bool false),(10,.bool false)]) (⟨rfl,rfl,rfl,rfl,rfl,rfl,(congrArg (fun b=>some (Value.bool b)) hg1e),(congrArg (fun b=>some (Value.bool b)) hg1e),trivial⟩) rfl ?_
 replace hg1:=of_decide_eq_false hg1
 refine G.skipG rfl rfl rfl rfl rfl rfl (G.skipG rfl rfl rfl rfl rfl rfl (G.skipG rfl rfl rfl rfl rfl rfl ?_))
 refine Zd (OD.pickF rfl rfl rfl) rfl ?_
 refine Za rfl (Zn (Zt (GC.ret ?_)))
 exact GE.body [] 0 (res1 rfl rfl) rfl (⟨congrArg (fun(a0:Bool)=>(.bool (a0):Value)) ((by unfold inB;simp;omega:(false:Bool)=inB n lo hi)),rfl⟩)
theorem partNames_w {W:World}{own:List Asn}:Spec Tryz.prog 183 [] W own (fun v ow=>∃ (r0:Value),v=r0∧IsS r0∧ow=strs 9 r0 nameL::own):=by
 refine Spec.enter Tryz.f183 _ Tryz.func183 rfl (n:=2) rfl rfl ?_
 refine Zs (Zr (Za rfl (Zn (Zt (Zs (Zr ?_))))))
 refine G.step (OG.buildStrs (os:=[.const (.string (⟨#[65,49]⟩)),.const (.string (⟨#[65,50]⟩)),.const (.string (⟨#[65,51]⟩)),.const (.string (⟨#[65,52]⟩)),.const (.string (⟨#[66,50]⟩)),.const (.string (⟨#[66,51]⟩)),.const (.string (⟨#[66,52]⟩)),.const (.string (⟨#[67,51]⟩)),.const (.string (⟨#[67,52]⟩)),.const (.string (⟨#[68,52]⟩)),.const (.string (⟨#[70,52]⟩)),.const (.string (⟨#[71,50]⟩))]) (xs:=[⟨#[65,49]⟩,⟨#[65,50]⟩,⟨#[65,51]⟩,⟨#[65,52]⟩,⟨#[66,50]⟩,⟨#[66,51]⟩,⟨#[66,52]⟩,⟨#[67,51]⟩,⟨#[67,52]⟩,⟨#[68,52]⟩,⟨#[70,52]⟩,⟨#[71,50]⟩]) rfl et113 rfl rfl rfl rfl rfl) rfl rfl rfl ?_
 rintro v1 _ ⟨hs2,rfl⟩
 refine Za rfl (Zn (Zt (GC.ret ?_)))
 exact GE.body [] 0 (res1 rfl rfl) rfl (⟨v1,rfl,hs2,rfl⟩)
theorem l5Names_w {W:World}{own:List Asn}:Spec Tryz.prog 103 [] W own (fun v ow=>∃ (r0:Value),v=r0∧IsS r0∧ow=strs 9 r0 nameL::own):=by
 refine Spec.enter Tryz.f103 _ Tryz.func103 rfl (n:=2) rfl rfl ?_
 refine Zs (Zr (Za rfl (Zn (Zt (Zs (Zr ?_))))))
 refine G.step (OG.buildStrs (os:=[.const (.string (⟨#[65,49]⟩)),.const (.string (⟨#[65,50]⟩)),.const (.string (⟨#[65,51]⟩)),.const (.string (⟨#[65,52]⟩)),.const (.string (⟨#[66,50]⟩)),.const (.string (⟨#[66,51]⟩)),.const (.string (⟨#[66,52]⟩)),.const (.string (⟨#[67,51]⟩)),.const (.string (⟨#[67,52]⟩)),.const (.string (⟨#[68,52]⟩)),.const (.string (⟨#[70,52]⟩)),.const (.string (⟨#[71,50]⟩))]) (xs:=[⟨#[65,49]⟩,⟨#[65,50]⟩,⟨#[65,51]⟩,⟨#[65,52]⟩,⟨#[66,50]⟩,⟨#[66,51]⟩,⟨#[66,52]⟩,⟨#[67,51]⟩,⟨#[67,52]⟩,⟨#[68,52]⟩,⟨#[70,52]⟩,⟨#[71,50]⟩]) rfl et113 rfl rfl rfl rfl rfl) rfl rfl rfl ?_
 rintro v1 _ ⟨hs2,rfl⟩
 refine Za rfl (Zn (Zt (GC.ret ?_)))
 exact GE.body [] 0 (res1 rfl rfl) rfl (⟨v1,rfl,hs2,rfl⟩)
theorem indexS_w {W:World}{own:List Asn}{vx:Value}{x:List ByteArray}{s:ByteArray}(sx:IsS vx)(ex:Ent own fun w=>Strs w vx x)(hl:x.length≤9223372036854775807):Spec Tryz.prog 220 [vx,.string (s)] W own (fun v ow=>v = .int .i64 (posS x s)∧ow=own):=by
 refine Spec.enter Tryz.f220 _ Tryz.func220 rfl (n:=19) rfl rfl ?_
 refine Zs (Zr (Za rfl (Zn (Zt (Zs (Zs (Zr (Zm rfl (Zd (OD.len rfl rfl et113 rfl ex) rfl ?_)))))))))
 refine Zm rfl (Zn (Zt (GC.block ?_)))
 refine GC.loop (ι:=Nat) (fun k=>[(0,vx),(1,.string (s)),(7,.int .i64 ((x.length:Nat))),(8,.int .i64 ((k:Int)))]) (fun k=>own) (fun k=>(k≤x.length)∧((x.take k).any ((strEq s ·))=false)) (fun k=>x.length - k) 0 (⟨by omega,by simp⟩) ⟨rfl,rfl,rfl,rfl,trivial⟩ [] 0 rfl ?_
 rintro k ⟨hk,ht⟩
 refine Zs (Zr (Zd (OD.lss rfl rfl rfl) rfl ?_))
 refine Zn (Zt (Zs ?_))
 refine GC.cond rfl (fun hc1=>?_) (fun hc1=>?_)
 replace hc1:=of_decide_eq_true hc1
 refine Zk (Zt (Zs (GC.block (Zs (Zr ?_)))))
 refine Zm rfl (Za rfl (Zn (Zt (Zs (Zr (Zm rfl (Zm rfl (Zm rfl (Zd (OD.indexAddr rfl et113 rfl ex rfl (by omega)) rfl ?_)))))))))
 refine Zd (OD.loadStr rfl ti9 rfl ex (by omega)) rfl ?_
 refine Zd (OD.strEql rfl rfl rfl) rfl ?_
 refine Zn (Zt ?_)
 refine GC.cond rfl (fun hc2=>?_) (fun hc2=>?_)
 refine Zs (Zr (Zm rfl (Za rfl (Zn (Zt (GC.ret (GE.blockR (GE.passR (GE.passR (GE.blockR (GE.passR ?_)))))))))))
 exact GE.body [] 0 (res1 rfl rfl) rfl (⟨congrArg (fun(a0:Int)=>(.int .i64 (a0):Value)) (((posF_at (d:=⟨#[]⟩) (by omega) ht (by assumption)).symm:((k:Int):Int)=posS x s)),rfl⟩)
 refine Zk (GE.blockN (Zt (Zr ?_)))
 refine Zd (OD.addI rfl rfl rfl (by omega)) rfl ?_
 exact Zm rfl (Zn (GE.again (k+1) (⟨by omega,any_take_succ (d:=⟨#[]⟩) (by omega) ht (by assumption)⟩) (by first | omega | (dsimp only;omega)) ⟨rfl,rfl,rfl,rfl,trivial⟩ [] 0 rfl))
 replace hc1:=of_decide_eq_false hc1
 refine GC.exit (Zp (Zp (GE.hit (Zt (Zs (Zr ?_))))))
 refine Za rfl (Zn (Zt (GC.ret ?_)))
 exact GE.body [] 0 (res1 rfl rfl) rfl (⟨congrArg (fun(a0:Int)=>(.int .i64 (a0):Value)) (((posF_none (any_take_all (by omega) ht)).symm:(-1:Int)=posS x s)),rfl⟩)
theorem containsS_w {W:World}{own:List Asn}{vx:Value}{x:List ByteArray}{s:ByteArray}(sx:IsS vx)(ex:Ent own fun w=>Strs w vx x)(hl:x.length≤9223372036854775807):Spec Tryz.prog 205 [vx,.string (s)] W own (fun v ow=>v = .bool (hasS x s)∧ow=own):=by
 refine Spec.enter Tryz.f205 _ Tryz.func205 rfl (n:=9) rfl rfl ?_
 refine Zs (Zr (Za rfl (Zn (Zt (Zs (Zr (Zm rfl (Zm rfl (G.step (OG.call [vx,.string (s)] ent220 rfl rfl rfl rfl (by exact(indexS_w sx ex (by omega)))) rfl rfl rfl ?_)))))))))
 rintro _ _ ⟨rfl,hzz⟩;obtain rfl:=hzz.symm
 refine Zd (OD.geq rfl rfl rfl) rfl ?_
 refine Za rfl (Zn (Zt (GC.ret ?_)))
 exact GE.body [] 0 (res1 rfl rfl) rfl (⟨congrArg (fun(a0:Bool)=>(.bool (a0):Value)) ((posF_ge:(decide (0≤posS x s):Bool)=hasS x s)),rfl⟩)
theorem indexI_w {W:World}{own:List Asn}{vx:Value}{x:List Int}{q:Int}(sx:IsS vx)(ex:Ent own fun w=>Ints w vx x)(hl:x.length≤9223372036854775807):Spec Tryz.prog 208 [vx,.int .i64 (q)] W own (fun v ow=>v = .int .i64 (posI x q)∧ow=own):=by
 refine Spec.enter Tryz.f208 _ Tryz.func208 rfl (n:=19) rfl rfl ?_
 refine Zs (Zr (Za rfl (Zn (Zt (Zs (Zs (Zr (Zm rfl (Zd (OD.len rfl rfl et22 rfl ex) rfl ?_)))))))))
 refine Zm rfl (Zn (Zt (GC.block ?_)))
 refine GC.loop (ι:=Nat) (fun k=>[(0,vx),(1,.int .i64 (q)),(7,.int .i64 ((x.length:Nat))),(8,.int .i64 ((k:Int)))]) (fun k=>own) (fun k=>(k≤x.length)∧((x.take k).any ((q == ·))=false)) (fun k=>x.length - k) 0 (⟨by omega,by simp⟩) ⟨rfl,rfl,rfl,rfl,trivial⟩ [] 0 rfl ?_
 rintro k ⟨hk,ht⟩
 refine Zs (Zr (Zd (OD.lss rfl rfl rfl) rfl ?_))
 refine Zn (Zt (Zs ?_))
 refine GC.cond rfl (fun hc1=>?_) (fun hc1=>?_)
 replace hc1:=of_decide_eq_true hc1
 refine Zk (Zt (Zs (GC.block (Zs (Zr ?_)))))
 refine Zm rfl (Za rfl (Zn (Zt (Zs (Zr (Zm rfl (Zm rfl (Zm rfl (Zd (OD.indexAddr rfl et22 rfl ex rfl (by omega)) rfl ?_)))))))))
 refine Zd (OD.loadInt rfl ti3 rfl ex (by omega)) rfl ?_
 refine Zd (OD.eql rfl rfl rfl) rfl ?_
 refine Zn (Zt ?_)
 refine GC.cond rfl (fun hc2=>?_) (fun hc2=>?_)
 replace hc2:=eq_of_beq hc2
 have hc2b:(_==_)=true:=beq_iff_eq.2 hc2
 refine Zs (Zr (Zm rfl (Za rfl (Zn (Zt (GC.ret (GE.blockR (GE.passR (GE.passR (GE.blockR (GE.passR ?_)))))))))))
 exact GE.body [] 0 (res1 rfl rfl) rfl (⟨congrArg (fun(a0:Int)=>(.int .i64 (a0):Value)) (((posF_at (d:=0) (by omega) ht (by assumption)).symm:((k:Int):Int)=posI x q)),rfl⟩)
 replace hc2:=ne_of_beq_false hc2
 have hc2b:=beqI_ne hc2
 refine Zk (GE.blockN (Zt (Zr ?_)))
 refine Zd (OD.addI rfl rfl rfl (by omega)) rfl ?_
 exact Zm rfl (Zn (GE.again (k+1) (⟨by omega,any_take_succ (d:=0) (by omega) ht (by assumption)⟩) (by first | omega | (dsimp only;omega)) ⟨rfl,rfl,rfl,rfl,trivial⟩ [] 0 rfl))
 replace hc1:=of_decide_eq_false hc1
 refine GC.exit (Zp (Zp (GE.hit (Zt (Zs (Zr ?_))))))
 refine Za rfl (Zn (Zt (GC.ret ?_)))
 exact GE.body [] 0 (res1 rfl rfl) rfl (⟨congrArg (fun(a0:Int)=>(.int .i64 (a0):Value)) (((posF_none (any_take_all (by omega) ht)).symm:(-1:Int)=posI x q)),rfl⟩)
theorem containsI_w {W:World}{own:List Asn}{vx:Value}{x:List Int}{q:Int}(sx:IsS vx)(ex:Ent own fun w=>Ints w vx x)(hl:x.length≤9223372036854775807):Spec Tryz.prog 187 [vx,.int .i64 (q)] W own (fun v ow=>v = .bool (x.contains q)∧ow=own):=by
 refine Spec.enter Tryz.f187 _ Tryz.func187 rfl (n:=9) rfl rfl ?_
 refine Zs (Zr (Za rfl (Zn (Zt (Zs (Zr (Zm rfl (Zm rfl (G.step (OG.call [vx,.int .i64 (q)] ent208 rfl rfl rfl rfl (by exact(indexI_w sx ex (by omega)))) rfl rfl rfl ?_)))))))))
 rintro _ _ ⟨rfl,hzz⟩;obtain rfl:=hzz.symm
 refine Zd (OD.geq rfl rfl rfl) rfl ?_
 refine Za rfl (Zn (Zt (GC.ret ?_)))
 exact GE.body [] 0 (res1 rfl rfl) rfl (⟨congrArg (fun(a0:Bool)=>(.bool (a0):Value)) ((posI_ge _ _:(decide (0≤posI x q):Bool)=x.contains q)),rfl⟩)
theorem l1Find_w {W:World}{own:List Asn}{vx:Value}{x:List Int}{q:Int}(sx:IsS vx)(ex:Ent own fun w=>Ints w vx x)(hl:x.length≤9223372036854775807):Spec Tryz.prog 163 [vx,.int .i64 (q)] W own (fun v ow=>v = .int .i64 (posI x q)∧ow=own):=by
 refine Spec.enter Tryz.f163 _ Tryz.func163 rfl (n:=19) rfl rfl ?_
 refine Zs (Zr (Za rfl (Zn (Zt (Zs (Zs (Zr (Za rfl (Zn (Zt (GC.block ?_)))))))))))
 refine GC.loop (ι:=Nat) (fun k=>[(0,vx),(1,.int .i64 (q)),(5,.int .i64 ((k:Int)))]) (fun k=>own) (fun k=>(k≤x.length)∧((x.take k).any ((q == ·))=false)) (fun k=>x.length - k) 0 (⟨by omega,by simp⟩) ⟨rfl,rfl,rfl,trivial⟩ [] 0 rfl ?_
 rintro k ⟨hk,ht⟩
 refine Zs (Zs (Zr (Zm rfl (Zm rfl (Zd (OD.len rfl rfl et22 rfl ex) rfl ?_)))))
 refine Zd (OD.lss rfl rfl rfl) rfl ?_
 refine Zn (Zt ?_)
 refine GC.cond rfl (fun hc1=>?_) (fun hc1=>?_)
 replace hc1:=of_decide_eq_true hc1
 refine Zk (Zt (Zs (GC.block (Zs (Zr ?_)))))
 refine Zm rfl (Zm rfl (Zd (OD.indexAddr rfl et22 rfl ex rfl (by omega)) rfl ?_))
 refine Zd (OD.loadInt rfl ti3 rfl ex (by omega)) rfl ?_
 refine Zm rfl (Zd (OD.eql rfl rfl rfl) rfl ?_)
 refine Zn (Zt ?_)
 refine GC.cond rfl (fun hc2=>?_) (fun hc2=>?_)
 replace hc2:=eq_of_beq hc2
 have hc2b:(_==_)=true:=beq_iff_eq.2 (Eq.symm hc2)
 refine Zs (Zr (Zm rfl (Za rfl (Zn (Zt (GC.ret (GE.blockR (GE.passR (GE.passR (GE.blockR (GE.passR ?_)))))))))))
 exact GE.body [] 0 (res1 rfl rfl) rfl (⟨congrArg (fun(a0:Int)=>(.int .i64 (a0):Value)) (((posF_at (d:=0) (by omega) ht (by assumption)).symm:((k:Int):Int)=posI x q)),rfl⟩)
 replace hc2:=ne_of_beq_false hc2
 have hc2b:=beqI_ne (Ne.symm hc2)
 refine Zk (GE.blockN (Zt (Zr ?_)))
 refine Zm rfl (Zd (OD.addI rfl rfl rfl (by omega)) rfl ?_)
 exact Za rfl (Zn (GE.again (k+1) (⟨by omega,any_take_succ (d:=0) (by omega) ht (by assumption)⟩) (by first | omega | (dsimp only;omega)) ⟨rfl,rfl,rfl,trivial⟩ [] 0 rfl))
 replace hc1:=of_decide_eq_false hc1
 refine GC.exit (Zp (Zp (GE.hit (Zt (Zs (Zr ?_))))))
 refine Za rfl (Zn (Zt (GC.ret ?_)))
 exact GE.body [] 0 (res1 rfl rfl) rfl (⟨congrArg (fun(a0:Int)=>(.int .i64 (a0):Value)) (((posF_none (any_take_all (by omega) ht)).symm:(-1:Int)=posI x q)),rfl⟩)
theorem clone_w {W:World}{own:List Asn}{vx:Value}{x:List Int}(sx:IsS vx)(ex:Ent own fun w=>Ints w vx x)(hl:x.length≤1073741824):Spec Tryz.prog 130 [vx] W own (fun v ow=>∃ (r0:Value),v=r0∧IsS r0∧ow=ints 3 r0 x::own):=by
 refine Spec.enter Tryz.f130 _ Tryz.func130 rfl (n:=8) rfl rfl ?_
 refine Zs (Zr (Za rfl (Zn (Zt (Zs (Zs (Zr (Zm rfl (Zd (OD.eqlNil rfl et22.ht rfl sx rfl) rfl ?_)))))))))
 refine Zn (Zt ?_)
 refine GC.cond rfl (fun hc1=>?_) (fun hc1=>?_)
 refine GC.fact (Ent.imp ex fun w hw=>nil_ints hw hc1) fun hnil=>?_
 refine Zs (Zr (Za rfl (Zn (Zt (GC.ret (GE.passR ?_))))))
 refine GE.nilInts 3 ?_
 exact GE.body [] 0 (res1 rfl rfl) rfl (⟨(.slice none 0 0),rfl,IsS.nil,congrArg (fun(l0:List Int)=>ints 3 (.slice none 0 0) l0::own) ((hnil.symm : []=x))⟩)
 refine Zk (Zt (Zs (Zr (G.step (OG.buildInts (xs:=[]) (is:=[]) rfl et22 rfl rfl rfl rfl rfl) rfl rfl rfl ?_))))
 rintro v2 _ ⟨hs3,rfl⟩
 refine Zm rfl (G.step (OG.appendInts 0 rfl rfl et22 rfl rfl rfl (Ent.drop 1 ex) (by first | omega | (simp;omega))) rfl rfl rfl ?_)
 rintro v4 _ ⟨hs5,rfl⟩
 refine Za rfl (Zn (Zt (GC.ret ?_)))
 exact GE.body [] 0 (res1 rfl rfl) rfl (⟨v4,rfl,hs5,congrArg (fun(l0:List Int)=>ints 3 v4 l0::own) ((List.nil_append _ : []++x=x))⟩)
theorem l1Ints_w {W:World}{own:List Asn}{vx:Value}{x:List Int}(sx:IsS vx)(ex:Ent own fun w=>Ints w vx x)(hl:x.length≤1073741824):Spec Tryz.prog 108 [vx] W own (fun v ow=>∃ (r0:Value),v=r0∧IsS r0∧ow=ints 3 r0 x::own):=by
 refine Spec.enter Tryz.f108 _ Tryz.func108 rfl (n:=6) rfl rfl ?_
 refine Zs (Zr (Za rfl (Zn (Zt (Zs (Zr (G.step (OG.buildInts (xs:=[]) (is:=[]) rfl et22 rfl rfl rfl rfl rfl) rfl rfl rfl ?_)))))))
 rintro v1 _ ⟨hs2,rfl⟩
 refine Zm rfl (G.step (OG.appendInts 0 rfl rfl et22 rfl rfl rfl (Ent.drop 1 ex) (by first | omega | (simp;omega))) rfl rfl rfl ?_)
 rintro v3 _ ⟨hs4,rfl⟩
 refine Za rfl (Zn (Zt (GC.ret ?_)))
 exact GE.body [] 0 (res1 rfl rfl) rfl (⟨v3,rfl,hs4,congrArg (fun(l0:List Int)=>ints 3 v3 l0::own) ((List.nil_append _ : []++x=x))⟩)
theorem at_w {W:World}{own:List Asn}{cr:Int}{vcd:Value}{cd:List Int}{i:Int}{j:Int}(scd:IsS vcd)(ecd:Ent own fun w=>Ints w vcd cd)(hb:0≤i*cr∧i*cr≤1000000∧0≤i*cr+j∧i*cr+j<cd.length∧i*cr+j≤1000000):Spec Tryz.prog 128 [.agg #[.int .i64 (cr),vcd],.int .i64 (i),.int .i64 (j)] W own (fun v ow=>v = .int .i64 (atI cr cd i j)∧ow=own):=by
 refine Spec.enter Tryz.f128 _ Tryz.func128 rfl (n:=17) rfl rfl ?_
 refine Zs (Zr (G.step (OG.box (cs:=[.int .i64 (cr),vcd]) rfl rfl rfl) rfl rfl rfl ?_))
 rintro _ _ ⟨g1,rfl,rfl⟩
 refine Za rfl (Zn (Zt (Zs (Zr (Zd (OD.fieldAddr rfl rfl fa27_1) rfl ?_)))))
 refine Zd (OD.load rfl ti22 rfl (i:=0) rfl rfl) rfl ?_
 refine Zm rfl (Zd (OD.fieldAddr rfl rfl fa27_0) rfl ?_)
 refine Zd (OD.load rfl ti3 rfl (i:=0) rfl rfl) rfl ?_
 refine Zd (OD.mulI rfl rfl rfl (by omega)) rfl ?_
 refine Zm rfl (Zd (OD.addI rfl rfl rfl (by omega)) rfl ?_)
 refine Zd (OD.indexAddr rfl et22 rfl (Ent.drop 1 ecd) rfl (by omega)) rfl ?_
 refine Zd (OD.loadInt rfl ti3 rfl (Ent.drop 1 ecd) (by omega)) rfl ?_
 refine Za rfl (Zn (Zt (GC.ret ?_)))
 exact GE.body [] 1 (res1 rfl rfl) rfl (⟨rfl,rfl⟩)
theorem l5At_w {W:World}{own:List Asn}{cr:Int}{vcd:Value}{cd:List Int}{i:Int}{j:Int}(scd:IsS vcd)(ecd:Ent own fun w=>Ints w vcd cd)(hb:0≤i*cr∧i*cr≤1000000∧0≤i*cr+j∧i*cr+j<cd.length∧i*cr+j≤1000000):Spec Tryz.prog 109 [.agg #[.int .i64 (cr),vcd],.int .i64 (i),.int .i64 (j)] W own (fun v ow=>v = .int .i64 (atI cr cd i j)∧ow=own):=by
 refine Spec.enter Tryz.f109 _ Tryz.func109 rfl (n:=17) rfl rfl ?_
 refine Zs (Zr (G.step (OG.box (cs:=[.int .i64 (cr),vcd]) rfl rfl rfl) rfl rfl rfl ?_))
 rintro _ _ ⟨g1,rfl,rfl⟩
 refine Za rfl (Zn (Zt (Zs (Zr (Zd (OD.fieldAddr rfl rfl fa27_1) rfl ?_)))))
 refine Zd (OD.load rfl ti22 rfl (i:=0) rfl rfl) rfl ?_
 refine Zm rfl (Zd (OD.fieldAddr rfl rfl fa27_0) rfl ?_)
 refine Zd (OD.load rfl ti3 rfl (i:=0) rfl rfl) rfl ?_
 refine Zd (OD.mulI rfl rfl rfl (by omega)) rfl ?_
 refine Zm rfl (Zd (OD.addI rfl rfl rfl (by omega)) rfl ?_)
 refine Zd (OD.indexAddr rfl et22 rfl (Ent.drop 1 ecd) rfl (by omega)) rfl ?_
 refine Zd (OD.loadInt rfl ti3 rfl (Ent.drop 1 ecd) (by omega)) rfl ?_
 refine Za rfl (Zn (Zt (GC.ret ?_)))
 exact GE.body [] 1 (res1 rfl rfl) rfl (⟨rfl,rfl⟩)
theorem put_w {W:World}{own:List Asn}{i:Int}{j:Int}{x:Int}{gc:Nat}{gn:Nat}{n:Int}{vy:Value}{ys:List Int}(hn:1≤n∧n≤4)(hi:1≤i∧i≤n)(hj:1≤j∧j≤n)(hl:(ys.length:Int)=n*n):Spec Tryz.prog 206 [.int .i64 (i),.int .i64 (j),.int .i64 (x),.pointer (some ⟨gc,0,none⟩),.pointer (some ⟨gn,0,none⟩)] W (box gc 27 [.int .i64 (n),vy]::box gn 3 [.int .i64 (n)]::ints 3 vy ys::own) (fun v ow=>v = .tuple #[]∧ow=box gc 27 [.int .i64 (n),vy]::box gn 3 [.int .i64 (n)]::ints 3 vy (putF n ys i j x)::own):=by
 have hx:=idx_bd (n:=n) (i:=i - 1) (j:=j - 1) ⟨by omega,by omega⟩ ⟨by omega,by omega⟩ (by omega)
 refine Spec.enter Tryz.f206 _ Tryz.func206 rfl (n:=19) rfl rfl ?_
 refine Zr (Zd (OD.fieldAddr rfl rfl fa27_1) rfl ?_)
 refine Zd (OD.load rfl ti22 rfl (i:=0) rfl rfl) rfl ?_
 refine Zm rfl (Zd (OD.subI rfl rfl rfl (by omega)) rfl ?_)
 refine Zd (OD.load rfl ti3 rfl (i:=1) rfl rfl) rfl ?_
 refine Zd (OD.mulI rfl rfl rfl (by omega)) rfl ?_
 refine Zm rfl (Zd (OD.addI rfl rfl rfl (by omega)) rfl ?_)
 refine Zd (OD.subI rfl rfl rfl (by omega)) rfl ?_
 refine Zm rfl (Zd (OD.indexAddr rfl et22 rfl (Ent.ints (i:=2) rfl) rfl (by omega)) rfl ?_)
 refine G.stepD0 (OD.storeInt rfl ti3 rfl rfl (i:=2) rfl (by omega)) rfl rfl ?_
 exact Zn (GE.bodyN [] 0 (res0 rfl) rfl (⟨rfl,rfl⟩))
theorem both_w {W:World}{own:List Asn}{i:Int}{j:Int}{gp:Nat}{gc gn:Nat}{n:Int}{vy:Value}{ys:List Int}(hn:1≤n∧n≤4)(hi:1≤i∧i≤n)(hj:1≤j∧j≤n)(hl:(ys.length:Int)=n*n):Spec Tryz.prog 207 [.int .i64 (i),.int .i64 (j),.pointer (some ⟨gp,0,none⟩)] W (box gp 195 [.func (.func 206) #[] #[.pointer (some ⟨gc,0,none⟩),.pointer (some ⟨gn,0,none⟩)]]::box gc 27 [.int .i64 (n),vy]::box gn 3 [.int .i64 (n)]::ints 3 vy ys::own) (fun v ow=>v = .tuple #[]∧ow=box gp 195 [.func (.func 206) #[] #[.pointer (some ⟨gc,0,none⟩),.pointer (some ⟨gn,0,none⟩)]]::box gc 27 [.int .i64 (n),vy]::box gn 3 [.int .i64 (n)]::ints 3 vy (bothF n ys i j)::own):=by
 refine Spec.enter Tryz.f207 _ Tryz.func207 rfl (n:=13) rfl rfl ?_
 refine Zs (Zr (Zd (OD.load rfl ti195 rfl (i:=0) rfl rfl) rfl ?_))
 refine Zm rfl ?_
 refine Zm rfl (G.at [1,1,1] 0 (env':=[(0,.int .i64 (i)),(1,.int .i64 (j)),(2,.pointer (some ⟨gp,0,none⟩)),(5,.func (.func 206) #[] #[.pointer (some ⟨gc,0,none⟩),.pointer (some ⟨gn,0,none⟩)]),(6,.int .i64 (i)),(7,.int .i64 (j))]) ⟨rfl,rfl,rfl,rfl,rfl,rfl,trivial⟩ (own':=box gc 27 [.int .i64 (n),vy]::box gn 3 [.int .i64 (n)]::ints 3 vy ys::box gp 195 [.func (.func 206) #[] #[.pointer (some ⟨gc,0,none⟩),.pointer (some ⟨gn,0,none⟩)]]::own) rfl ?_)
 refine G.step (OG.call [.int .i64 (i),.int .i64 (j),.int .i64 (-1),.pointer (some ⟨gc,0,none⟩),.pointer (some ⟨gn,0,none⟩)] ent206 rfl rfl rfl rfl (by exact(put_w (by omega) (by omega) (by omega) (by first | exact hl | (rw[putF_len];exact hl))))) rfl rfl rfl ?_
 rintro _ _ ⟨rfl,rfl⟩
 refine Zn (Zt (Zr (Zd (OD.load rfl ti195 rfl (i:=3) rfl rfl) rfl ?_)))
 refine Zm rfl (Zm rfl (G.step (OG.call [.int .i64 (j),.int .i64 (i),.int .i64 (-1),.pointer (some ⟨gc,0,none⟩),.pointer (some ⟨gn,0,none⟩)] ent206 rfl rfl rfl rfl (by exact(put_w (by omega) (by omega) (by omega) (by first | exact hl | (rw[putF_len];exact hl))))) rfl rfl rfl ?_))
 rintro _ _ ⟨rfl,rfl⟩
 exact Zn (GE.bodyN [3,0,0,0] 0 (res0 rfl) rfl (⟨rfl,congrArg (fun(l3:List Int)=>box gp 195 [.func (.func 206) #[] #[.pointer (some ⟨gc,0,none⟩),.pointer (some ⟨gn,0,none⟩)]]::box gc 27 [.int .i64 (n),vy]::box gn 3 [.int .i64 (n)]::ints 3 vy l3::own) ((rfl:putF n (putF n ys i j (-1)) j i (-1)=bothF n ys i j))⟩))
theorem partCartan_w {W:World}{own:List Asn}{s:ByteArray}:Spec Tryz.prog 185 [.string (s)] W own (fun v ow=>∃ (r1:Value),v = .tuple #[.agg #[.int .i64 (partR s),r1],.bool ((nameNo s).isSome)]∧IsS r1∧ow=ints 3 r1 (partD s)::own):=by
 refine Spec.enter Tryz.f185 _ Tryz.func185 rfl (n:=80) rfl rfl ?_
 refine Zs (Zr (G.step (OG.alloc rfl ti27 (zs:=[.int .i64 (0),.slice none 0 0]) rfl) rfl rfl rfl ?_))
 rintro _ _ ⟨g1,rfl,rfl⟩
 refine Za rfl (Zn (Zt (Zs (Zs (Zr (G.step (OG.call [] ent183 rfl rfl rfl rfl (by exact partNames_w)) rfl rfl rfl ?_))))))
 rintro v2 _ ⟨_,rfl,hs3,rfl⟩
 refine Zm rfl (G.step (OG.call [v2,.string (s)] ent205 rfl rfl rfl rfl (by exact(containsS_w hs3 (Ent.strs (i:=0) rfl) (by decide)))) rfl rfl rfl ?_)
 rintro _ _ ⟨rfl,rfl⟩
 refine Zd (OD.not rfl rfl) rfl ?_
 refine Zn (Zt ?_)
 refine GC.cond rfl (fun hc4=>?_) (fun hc4=>?_)
 replace hc4:=eq_false_of_not hc4
 obtain⟨hp1,hp2,hp3⟩:=part_none hc4
 refine Zs (Zr (Zd (OD.build (idx:=[]) (xs:=[]) (vs:=[]) (cs:=[]) (zs:=[.int .i64 (0),.slice none 0 0]) (r:=[.int .i64 (0),.slice none 0 0]) rfl ti27 rfl rfl rfl trivial rfl) rfl ?_))
 refine G.stepD0 (OD.store rfl ti27 rfl rfl (us:=[.int .i64 (0),.slice none 0 0]) rfl rfl rfl (i:=1) rfl rfl) rfl rfl ?_
 refine Za rfl (Zn (Zt (GC.ret (GE.passR ?_))))
 refine GE.nilInts 3 ?_
 exact GE.body [0] 2 (resN rfl (RVs.cons (rv_cells ti27 rfl (i:=2) rfl rfl) (RVs.cons (rv_tmp rfl) RVs.nil)) rfl) rfl (⟨(.slice none 0 0),congr (congrArg (fun(a0:Int) (a2:Bool)=>(.tuple #[.agg #[.int .i64 (a0),(.slice none 0 0)],.bool (a2)]:Value)) ((hp1.symm:(0:Int)=partR s))) ((hp3.symm:(false:Bool)=(nameNo s).isSome)),IsS.nil,congrArg (fun(l0:List Int)=>ints 3 (.slice none 0 0) l0::own) ((hp2.symm : []=partD s))⟩)
 replace hc4:=eq_true_of_not hc4
 obtain⟨k,hk⟩:=hasS_some hc4
 obtain⟨hk12,hse⟩:=nameNo_some hk
 have hrk:=rk_bd k hk12
 have hsz:s.size=2:=by rw[hse];exact nm_sz k hk12
 have hpD:partD s=oneD k:=by simp[partD,hk]
 have hpR:partR s=(rk k:Int):=by simp[partR,hk]
 have hpS:(nameNo s).isSome=true:=by simp[hk]
 have hN0:0≤(rk k:Int)*(rk k:Int):=Int.mul_nonneg (by omega) (by omega)
 have hN1:(rk k:Int)*(rk k:Int)≤4*4:=Int.mul_le_mul (by omega) (by omega) (by omega) (by omega)
 refine Zk (Zt (Zs (Zr (Zm rfl (Zd (OD.indexStr rfl st9 rfl rfl (by omega)) rfl ?_)))))
 refine Zd (OD.eqv (OD.sub rfl rfl rfl) (congrArg (Value.int .u8) ((by rw[hse];exact nm_rk k hk12):(IntKind.u8.wrap ((bAt s 1) - 48):Int)=((rk k:Int))))) rfl ?_
 refine Zd (OD.convI rfl cv5_3 rfl (by omega)) rfl ?_
 refine G.step (OG.alloc rfl ti3 (zs:=[.int .i64 (0)]) rfl) rfl rfl rfl ?_
 rintro _ _ ⟨g5,rfl,rfl⟩
 refine G.stepD0 (OD.store rfl ti3 rfl rfl (us:=[.int .i64 ((rk k:Int))]) rfl rfl rfl (i:=0) rfl rfl) rfl rfl ?_
 refine Zn (Zt (Zs (GC.at [] 0 (env':=[(0,.string (s)),(2,.pointer (some ⟨g1,0,none⟩)),(4,.pointer (some ⟨g5,0,none⟩))]) ⟨rfl,rfl,rfl,trivial⟩ rfl ?_)))
 refine GC.par (its:=[Z0 18 (.int .i64 ((rk k:Int))),
     Z0 19 (.int .i64 ((rk k:Int))),
     Z0 20 (.int .i64 ((rk k:Int))),
     Z1 21 [(1,19),(2,20)] (.int .i64 ((rk k:Int)*(rk k:Int))),
     ⟨22,[(3,21)],[],[],[4],fun ds=>((ds.getD 0 []).getD 0 undef),fun ds=>IsS ((ds.getD 0 []).getD 0 undef),fun ds=>[ints 3 ((ds.getD 0 []).getD 0 undef) (List.replicate ((rk k:Int)*(rk k:Int):Int).toNat (0:Int))]⟩,
     ⟨23,[(0,18),(4,22)],[4],[],[4],fun ds => .agg #[.int .i64 ((rk k:Int)),((ds.getD 0 []).getD 0 undef)],fun _=>True,fun _=>[]⟩,
     ⟨5,[],[],[],[6],fun ds => .pointer (some ⟨(gOf ((ds.getD 0 []).getD 0 undef)),0,none⟩),fun _=>True,fun ds=>[box (gOf ((ds.getD 0 []).getD 0 undef)) 27 [.int .i64 (0),.slice none 0 0]]⟩]) (by kernel_rfl) (by kernel_rfl) (Zc ?_ (Zc ?_ (Zc ?_ (Zc ?_ (Zc ?_ (Zc ?_ (Zc ?_ POps.nil))))))) ?_
 exact fun θ R hd=>Zq (OD.load rfl ti3 rfl (i:=0) rfl rfl) rfl
 exact fun θ R hd=>Zq (OD.load rfl ti3 rfl (i:=0) rfl rfl) rfl
 exact fun θ R hd=>Zq (OD.load rfl ti3 rfl (i:=0) rfl rfl) rfl
 exact fun θ R ⟨h1d,h2d,_⟩=>Zq (OD.mulI rfl rfl rfl (by omega)) rfl
 exact fun θ R ⟨h3d,_⟩=>Opp.plain (OG.imp (OG.makeInts rfl et22 rfl rfl (by omega)) (by rintro v6 _ ⟨hs7,rfl⟩;exact⟨[v6],rfl,hs7,rfl⟩)) rfl
 exact fun θ R ⟨h0d,h4d,_⟩=>Zq (OD.build (idx:=[0,1]) (xs:=[.tmp 18,.tmp 22]) (vs:=[.int .i64 ((rk k:Int)),((θ 4).getD 0 undef)]) (cs:=[[.int .i64 ((rk k:Int))],[((θ 4).getD 0 undef)]]) (zs:=[.int .i64 (0),.slice none 0 0]) (r:=[.int .i64 ((rk k:Int)),((θ 4).getD 0 undef)]) rfl ti27 rfl rfl rfl ⟨rfl,⟨(one_cells (IsS.one h4d)),trivial⟩⟩ rfl) rfl
 exact fun θ R hd=>Opp.plain (OG.imp (OG.alloc rfl ti27 (zs:=[.int .i64 (0),.slice none 0 0]) rfl) (by rintro _ _ ⟨g8,rfl,rfl⟩;exact⟨[.pointer (some ⟨g8,0,none⟩)],rfl,trivial,rfl⟩)) rfl
 intro θ hall
 obtain⟨_,_,_,_,h4a,_,h6a,_⟩:=hall
 refine G.at [] 0 (env':=[(0,.string (s)),(2,.pointer (some ⟨g1,0,none⟩)),(4,.pointer (some ⟨g5,0,none⟩)),(23,.agg #[.int .i64 ((rk k:Int)),((θ 4).getD 0 undef)]),(5,.pointer (some ⟨(gOf ((θ 6).getD 0 undef)),0,none⟩))]) ⟨rfl,rfl,rfl,rfl,rfl,trivial⟩ (own':=ints 3 ((θ 4).getD 0 undef) (List.replicate ((rk k:Int)*(rk k:Int):Int).toNat (0:Int))::box (gOf ((θ 6).getD 0 undef)) 27 [.int .i64 (0),.slice none 0 0]::box g5 3 [.int .i64 ((rk k:Int))]::strs 9 v2 nameL::box g1 27 [.int .i64 (0),.slice none 0 0]::own) rfl ?_
 have hs9:IsS ((θ 4).getD 0 undef):=h4a
 clear h4a
 generalize ((θ 4).getD 0 undef)=v10 at *
 clear h6a
 generalize (gOf ((θ 6).getD 0 undef))=b11 at *
 show G _ _ _ [_] _ _ _ _
 refine G.stepD0 (OD.store rfl ti27 rfl rfl (us:=[.int .i64 ((rk k:Int)),v10]) rfl rfl (allC rfl (allC (IsS.one hs9) rfl)) (i:=1) rfl rfl) rfl rfl ?_
 refine Zn (Zt (Zs (Zr (Zd (OD.makeFunc (first:=[]) (captured:=[.tmp 5,.tmp 4]) (us:=[]) (vs:=[.pointer (some ⟨b11,0,none⟩),.pointer (some ⟨g5,0,none⟩)]) rfl rfl rfl) rfl ?_))))
 refine G.step (OG.alloc rfl ti195 (zs:=[.nilFunc]) rfl) rfl rfl rfl ?_
 rintro _ _ ⟨g12,rfl,rfl⟩
 refine G.stepD0 (OD.store rfl ti195 rfl rfl (us:=[.func (.func 206) #[] #[.pointer (some ⟨b11,0,none⟩),.pointer (some ⟨g5,0,none⟩)]]) rfl rfl rfl (i:=0) rfl rfl) rfl rfl ?_
 refine Zn (Zt (Zs (Zr (Zd (OD.makeFunc (first:=[]) (captured:=[.tmp 6]) (us:=[]) (vs:=[.pointer (some ⟨g12,0,none⟩)]) rfl rfl rfl) rfl ?_))))
 refine Za rfl (Zn (Zt (Zs (Zs (Zr (Za rfl (Zn (Zt (GC.block ?_)))))))))
 refine GC.loop (ι:=Nat × List Int) (fun⟨q,ys⟩=>[(0,.string (s)),(2,.pointer (some ⟨g1,0,none⟩)),(4,.pointer (some ⟨g5,0,none⟩)),(5,.pointer (some ⟨b11,0,none⟩)),(6,.pointer (some ⟨g12,0,none⟩)),(7,.func (.func 207) #[] #[.pointer (some ⟨g12,0,none⟩)]),(8,.int .i64 ((q:Int)+1))]) (fun⟨q,ys⟩=>box g12 195 [.func (.func 206) #[] #[.pointer (some ⟨b11,0,none⟩),.pointer (some ⟨g5,0,none⟩)]]::ints 3 v10 ys::box b11 27 [.int .i64 ((rk k:Int)),v10]::box g5 3 [.int .i64 ((rk k:Int))]::strs 9 v2 nameL::box g1 27 [.int .i64 (0),.slice none 0 0]::own) (fun⟨q,ys⟩=>(q≤rk k)∧((ys.length:Int)=(rk k:Int)*(rk k:Int))∧(ys=(List.range q).foldl (itI k) (List.replicate ((rk k:Int)*(rk k:Int)).toNat 0))) (fun⟨q,ys⟩=>rk k - q) (0,List.replicate ((rk k:Int)*(rk k:Int)).toNat 0) (⟨by omega,by rw[List.length_replicate];omega,rfl⟩) ⟨rfl,rfl,rfl,rfl,rfl,rfl,int_eq (by omega),trivial⟩ [] 0 rfl ?_
 rintro⟨q,ys⟩ ⟨hq,hyl,hy⟩
 refine Zs (Zs (Zr (Zm rfl (Zd (OD.load rfl ti3 rfl (i:=3) rfl rfl) rfl ?_))))
 refine Zd (OD.leq rfl rfl rfl) rfl ?_
 refine Zn (Zt ?_)
 refine GC.cond rfl (fun hc13=>?_) (fun hc13=>?_)
 replace hc13:=of_decide_eq_true hc13
 refine Zk (Zt (Zs (GC.block (Zs (Zr ?_)))))
 refine Zd (OD.load rfl ti195 rfl (i:=0) rfl rfl) rfl ?_
 refine Zm rfl (Zm rfl ?_)
 refine G.at [2,2,1] 0 (env':=[(0,.string (s)),(2,.pointer (some ⟨g1,0,none⟩)),(4,.pointer (some ⟨g5,0,none⟩)),(5,.pointer (some ⟨b11,0,none⟩)),(6,.pointer (some ⟨g12,0,none⟩)),(7,.func (.func 207) #[] #[.pointer (some ⟨g12,0,none⟩)]),(8,.int .i64 ((q:Int)+1)),(26,.int .i64 ((q:Int)+1)),(27,.int .i64 ((rk k:Int))),(28,.bool (decide ((q:Int)+1≤(rk k:Int)))),(31,.func (.func 206) #[] #[.pointer (some ⟨b11,0,none⟩),.pointer (some ⟨g5,0,none⟩)]),(32,.int .i64 ((q:Int)+1)),(33,.int .i64 ((q:Int)+1))]) ⟨rfl,rfl,rfl,rfl,rfl,rfl,rfl,rfl,rfl,rfl,rfl,rfl,rfl,trivial⟩ (own':=box b11 27 [.int .i64 ((rk k:Int)),v10]::box g5 3 [.int .i64 ((rk k:Int))]::ints 3 v10 ys::box g12 195 [.func (.func 206) #[] #[.pointer (some ⟨b11,0,none⟩),.pointer (some ⟨g5,0,none⟩)]]::strs 9 v2 nameL::box g1 27 [.int .i64 (0),.slice none 0 0]::own) rfl ?_
 refine G.step (OG.call [.int .i64 ((q:Int)+1),.int .i64 ((q:Int)+1),.int .i64 (2),.pointer (some ⟨b11,0,none⟩),.pointer (some ⟨g5,0,none⟩)] ent206 rfl rfl rfl rfl (by exact(put_w (by omega) (by omega) (by omega) (by first | exact hyl | (simp only[putF_len,bothF_len];exact hyl))))) rfl rfl rfl ?_
 rintro _ _ ⟨rfl,rfl⟩
 refine Zn (Zt (Zs (Zr (Zm rfl (Zd (OD.load rfl ti3 rfl (i:=1) rfl rfl) rfl ?_)))))
 refine Zd (OD.lss rfl rfl rfl) rfl ?_
 refine Zm rfl ?_
 rcases Bool.eq_false_or_eq_true (decide ((q:Int)+1<(rk k:Int))) with hg14 | hg14
 have hg14e:=hg14
 refine G.at [] 0 (env':=[(0,.string (s)),(2,.pointer (some ⟨g1,0,none⟩)),(4,.pointer (some ⟨g5,0,none⟩)),(5,.pointer (some ⟨b11,0,none⟩)),(6,.pointer (some ⟨g12,0,none⟩)),(7,.func (.func 207) #[] #[.pointer (some ⟨g12,0,none⟩)]),(8,.int .i64 ((q:Int)+1)),(26,.int .i64 ((q:Int)+1)),(27,.int .i64 ((rk k:Int))),(28,.bool (decide ((q:Int)+1≤(rk k:Int)))),(31,.func (.func 206) #[] #[.pointer (some ⟨b11,0,none⟩),.pointer (some ⟨g5,0,none⟩)]),(32,.int .i64 ((q:Int)+1)),(33,.int .i64 ((q:Int)+1)),(34,.tuple #[]),(35,.int .i64 ((q:Int)+1)),(36,.int .i64 ((rk k:Int))),(37,.bool true),(38,.bool true)]) (⟨rfl,rfl,rfl,rfl,rfl,rfl,rfl,rfl,rfl,rfl,rfl,rfl,rfl,rfl,rfl,rfl,(congrArg (fun b=>some (Value.bool b)) hg14e),(congrArg (fun b=>some (Value.bool b)) hg14e),trivial⟩) rfl ?_
 replace hg14:=of_decide_eq_true hg14
 refine G.stepGD (OD.move rfl rfl) rfl rfl rfl rfl rfl ?_
 refine G.stepGD (OD.eqv (OD.strNeq rfl rfl rfl) (congrArg (Value.bool) ((by rw[hse,nm_D4 k hk12]):_=(!(k==9))))) rfl rfl rfl rfl rfl ?_
 refine Zd (OD.pickT rfl rfl rfl) rfl ?_
 refine Zn (Zt ?_)
 refine GC.cond rfl (fun hc15=>?_) (fun hc15=>?_)
 replace hc15:=eq_false_of_not hc15
 refine Zr (Zm rfl (Zm rfl (Zm rfl (Zd (OD.addI rfl rfl rfl (by omega)) rfl ?_))))
 refine G.at [3,0,0,0] 0 (env':=[(0,.string (s)),(2,.pointer (some ⟨g1,0,none⟩)),(4,.pointer (some ⟨g5,0,none⟩)),(5,.pointer (some ⟨b11,0,none⟩)),(6,.pointer (some ⟨g12,0,none⟩)),(7,.func (.func 207) #[] #[.pointer (some ⟨g12,0,none⟩)]),(8,.int .i64 ((q:Int)+1)),(26,.int .i64 ((q:Int)+1)),(27,.int .i64 ((rk k:Int))),(28,.bool (decide ((q:Int)+1≤(rk k:Int)))),(31,.func (.func 206) #[] #[.pointer (some ⟨b11,0,none⟩),.pointer (some ⟨g5,0,none⟩)]),(32,.int .i64 ((q:Int)+1)),(33,.int .i64 ((q:Int)+1)),(34,.tuple #[]),(35,.int .i64 ((q:Int)+1)),(36,.int .i64 ((rk k:Int))),(37,.bool true),(38,.bool true),(39,.string (s)),(40,.bool (!(k==9))),(41,.bool (!(k==9))),(42,.func (.func 207) #[] #[.pointer (some ⟨g12,0,none⟩)]),(43,.int .i64 ((q:Int)+1)),(44,.int .i64 ((q:Int)+1)),(45,.int .i64 (((q:Int)+1)+1))]) ⟨rfl,rfl,rfl,rfl,rfl,rfl,rfl,rfl,rfl,rfl,rfl,rfl,rfl,rfl,rfl,rfl,rfl,rfl,rfl,rfl,rfl,rfl,rfl,rfl,rfl,trivial⟩ (own':=box g12 195 [.func (.func 206) #[] #[.pointer (some ⟨b11,0,none⟩),.pointer (some ⟨g5,0,none⟩)]]::box b11 27 [.int .i64 ((rk k:Int)),v10]::box g5 3 [.int .i64 ((rk k:Int))]::ints 3 v10 (putF (rk k:Int) ys ((q:Int)+1) ((q:Int)+1) 2)::strs 9 v2 nameL::box g1 27 [.int .i64 (0),.slice none 0 0]::own) rfl ?_
 refine G.step (OG.call [.int .i64 ((q:Int)+1),.int .i64 (((q:Int)+1)+1),.pointer (some ⟨g12,0,none⟩)] ent207 rfl rfl rfl rfl (by exact(both_w (by omega) (by omega) (by omega) (by first | exact hyl | (simp only[putF_len,bothF_len];exact hyl))))) rfl rfl rfl ?_
 rintro _ _ ⟨rfl,rfl⟩
 refine Zn (GE.blockN (Zt (Zr ?_)))
 refine Zm rfl (Zd (OD.addI rfl rfl rfl (by omega)) rfl ?_)
 refine Za rfl (Zn ?_)
 exact GE.again (q+1,bothF (rk k:Int) (putF (rk k:Int) ys ((q:Int)+1) ((q:Int)+1) 2) ((q:Int)+1) (((q:Int)+1)+1)) (⟨by omega,by simp only[putF_len,bothF_len];exact hyl,fold_next hy (by unfold itI;by_cases h9:k=9 <;> by_cases hlt:(q:Int)+1<rk k <;> first | (rw[if_pos ⟨hlt,h9⟩];done) | (rw[if_neg (fun hh=>hh.2 h9)];done) | (rw[if_neg (fun hh=>hlt hh.1)];done) | (exfalso;omega) | (exfalso;simp_all;done))⟩) (by first | omega | (dsimp only;omega)) ⟨rfl,rfl,rfl,rfl,rfl,rfl,int_eq (by omega),trivial⟩ [0,2,0,0,0,0] 0 rfl
 replace hc15:=eq_true_of_not hc15
 refine Zk (GE.blockN (Zt (Zr ?_)))
 refine Zm rfl (Zd (OD.addI rfl rfl rfl (by omega)) rfl ?_)
 refine Za rfl (Zn ?_)
 exact GE.again (q+1,putF (rk k:Int) ys ((q:Int)+1) ((q:Int)+1) 2) (⟨by omega,by simp only[putF_len,bothF_len];exact hyl,fold_next hy (by unfold itI;by_cases h9:k=9 <;> by_cases hlt:(q:Int)+1<rk k <;> first | (rw[if_pos ⟨hlt,h9⟩];done) | (rw[if_neg (fun hh=>hh.2 h9)];done) | (rw[if_neg (fun hh=>hlt hh.1)];done) | (exfalso;omega) | (exfalso;simp_all;done))⟩) (by first | omega | (dsimp only;omega)) ⟨rfl,rfl,rfl,rfl,rfl,rfl,int_eq (by omega),trivial⟩ [3,2,0,0,0,0] 0 rfl
 have hg14e:=hg14
 refine G.at [] 0 (env':=[(0,.string (s)),(2,.pointer (some ⟨g1,0,none⟩)),(4,.pointer (some ⟨g5,0,none⟩)),(5,.pointer (some ⟨b11,0,none⟩)),(6,.pointer (some ⟨g12,0,none⟩)),(7,.func (.func 207) #[] #[.pointer (some ⟨g12,0,none⟩)]),(8,.int .i64 ((q:Int)+1)),(26,.int .i64 ((q:Int)+1)),(27,.int .i64 ((rk k:Int))),(28,.bool (decide ((q:Int)+1≤(rk k:Int)))),(31,.func (.func 206) #[] #[.pointer (some ⟨b11,0,none⟩),.pointer (some ⟨g5,0,none⟩)]),(32,.int .i64 ((q:Int)+1)),(33,.int .i64 ((q:Int)+1)),(34,.tuple #[]),(35,.int .i64 ((q:Int)+1)),(36,.int .i64 ((rk k:Int))),(37,.bool false),(38,.bool false)]) (⟨rfl,rfl,rfl,rfl,rfl,rfl,rfl,rfl,rfl,rfl,rfl,rfl,rfl,rfl,rfl,rfl,(congrArg (fun b=>some (Value.bool b)) hg14e),(congrArg (fun b=>some (Value.bool b)) hg14e),trivial⟩) rfl ?_
 replace hg14:=of_decide_eq_false hg14
 refine G.skipG rfl rfl rfl rfl rfl rfl (G.skipG rfl rfl rfl rfl rfl rfl ?_)
 refine Zd (OD.pickF rfl rfl rfl) rfl ?_
 refine Zn (Zt (GC.condF rfl (Zk (GE.blockN (Zt (Zr ?_))))))
 refine Zm rfl (Zd (OD.addI rfl rfl rfl (by omega)) rfl ?_)
 refine Za rfl (Zn ?_)
 exact GE.again (q+1,putF (rk k:Int) ys ((q:Int)+1) ((q:Int)+1) 2) (⟨by omega,by simp only[putF_len,bothF_len];exact hyl,fold_next hy (by unfold itI;by_cases h9:k=9 <;> by_cases hlt:(q:Int)+1<rk k <;> first | (rw[if_pos ⟨hlt,h9⟩];done) | (rw[if_neg (fun hh=>hh.2 h9)];done) | (rw[if_neg (fun hh=>hlt hh.1)];done) | (exfalso;omega) | (exfalso;simp_all;done))⟩) (by first | omega | (dsimp only;omega)) ⟨rfl,rfl,rfl,rfl,rfl,rfl,int_eq (by omega),trivial⟩ [3,2,0,0,0,0] 0 rfl
 replace hc13:=of_decide_eq_false hc13
 refine GC.exit (Zp (Zp (GE.hit (Zt (Zs (Zs (Zr ?_)))))))
 refine Zm rfl (Zd (OD.indexStr rfl st9 rfl rfl (by omega)) rfl ?_)
 refine Zn (Zt (GC.block (Zs (Zr ?_))))
 refine Zd (OD.eql rfl rfl rfl) rfl ?_
 refine Za rfl (Zn (Zt ?_))
 refine GC.cond rfl (fun hc16=>?_) (fun hc16=>?_)
 replace hc16:=eq_of_beq hc16
 have hbb:bAt (nameB k) 0=66:=by rw[← hse];exact hc16
 have hr2:=rk_B k hk12 hbb
 refine Zr (Zd (OD.load rfl ti195 rfl (i:=0) rfl rfl) rfl ?_)
 refine Zd (OD.load rfl ti3 rfl (i:=3) rfl rfl) rfl ?_
 refine Zd (OD.load rfl ti3 rfl (i:=3) rfl rfl) rfl ?_
 refine Zd (OD.subI rfl rfl rfl (by omega)) rfl ?_
 refine G.at [2,2,1] 0 (env':=[(0,.string (s)),(2,.pointer (some ⟨g1,0,none⟩)),(4,.pointer (some ⟨g5,0,none⟩)),(5,.pointer (some ⟨b11,0,none⟩)),(6,.pointer (some ⟨g12,0,none⟩)),(7,.func (.func 207) #[] #[.pointer (some ⟨g12,0,none⟩)]),(8,.int .i64 ((q:Int)+1)),(26,.int .i64 ((q:Int)+1)),(27,.int .i64 ((rk k:Int))),(28,.bool (decide ((q:Int)+1≤(rk k:Int)))),(47,.string (s)),(48,.int .u8 (bAt s 0)),(50,.bool ((bAt s 0)==66)),(49,.bool ((bAt s 0)==66)),(51,.func (.func 206) #[] #[.pointer (some ⟨b11,0,none⟩),.pointer (some ⟨g5,0,none⟩)]),(52,.int .i64 ((rk k:Int))),(53,.int .i64 ((rk k:Int))),(54,.int .i64 ((rk k:Int) - 1))]) ⟨rfl,rfl,rfl,rfl,rfl,rfl,rfl,rfl,rfl,rfl,rfl,rfl,rfl,rfl,rfl,rfl,rfl,rfl,trivial⟩ (own':=box b11 27 [.int .i64 ((rk k:Int)),v10]::box g5 3 [.int .i64 ((rk k:Int))]::ints 3 v10 ys::box g12 195 [.func (.func 206) #[] #[.pointer (some ⟨b11,0,none⟩),.pointer (some ⟨g5,0,none⟩)]]::strs 9 v2 nameL::box g1 27 [.int .i64 (0),.slice none 0 0]::own) rfl ?_
 refine G.step (OG.call [.int .i64 ((rk k:Int)),.int .i64 ((rk k:Int) - 1),.int .i64 (-2),.pointer (some ⟨b11,0,none⟩),.pointer (some ⟨g5,0,none⟩)] ent206 rfl rfl rfl rfl (by exact(put_w (by omega) (by omega) (by omega) (by first | exact hyl | (simp only[putF_len,bothF_len];exact hyl))))) rfl rfl rfl ?_
 rintro _ _ ⟨rfl,rfl⟩
 refine Zn (GE.blockN (Zt (Zs (Zr ?_))))
 refine Zd (OD.loadAgg rfl ti27 rfl (i:=0) rfl (us:=[.int .i64 ((rk k:Int)),v10]) rfl rfl) rfl ?_
 refine G.stepD0 (OD.store rfl ti27 rfl rfl (us:=[.int .i64 ((rk k:Int)),v10]) rfl rfl (allC rfl (allC (IsS.one hs9) rfl)) (i:=5) rfl rfl) rfl rfl ?_
 refine Za rfl (Zn (Zt (GC.ret ?_)))
 exact GE.body [2] 5 (resN rfl (RVs.cons (rv_cells ti27 rfl (i:=5) rfl rfl) (RVs.cons (rv_tmp rfl) RVs.nil)) rfl) rfl (⟨v10,congr (congrArg (fun(a0:Int) (a2:Bool)=>(.tuple #[.agg #[.int .i64 (a0),v10],.bool (a2)]:Value)) ((hpR.symm:((rk k:Int):Int)=partR s))) ((hpS.symm:(true:Bool)=(nameNo s).isSome)),hs9,congrArg (fun(l0:List Int)=>ints 3 v10 l0::own) ((by rw[hpD,hy,show q=rk k by omega];exact endB k hk12 hbb:putF (rk k:Int) ys (rk k:Int) ((rk k:Int) - 1) (-2)=partD s))⟩)
 replace hc16:=ne_of_beq_false hc16
 have hc16n:bAt (nameB k) 0≠66:=by rw[← hse];exact hc16
 refine Zs (Zr (Zd (OD.eql rfl rfl rfl) rfl ?_))
 refine Za rfl (Zn (Zt ?_))
 refine GC.cond rfl (fun hc17=>?_) (fun hc17=>?_)
 replace hc17:=eq_of_beq hc17
 have hbb:bAt (nameB k) 0=67:=by rw[← hse];exact hc17
 have hr2:=rk_C k hk12 hbb
 refine Zr (Zd (OD.load rfl ti195 rfl (i:=0) rfl rfl) rfl ?_)
 refine Zd (OD.load rfl ti3 rfl (i:=3) rfl rfl) rfl ?_
 refine Zd (OD.subI rfl rfl rfl (by omega)) rfl ?_
 refine Zd (OD.load rfl ti3 rfl (i:=3) rfl rfl) rfl ?_
 refine G.at [2,2,1] 0 (env':=[(0,.string (s)),(2,.pointer (some ⟨g1,0,none⟩)),(4,.pointer (some ⟨g5,0,none⟩)),(5,.pointer (some ⟨b11,0,none⟩)),(6,.pointer (some ⟨g12,0,none⟩)),(7,.func (.func 207) #[] #[.pointer (some ⟨g12,0,none⟩)]),(8,.int .i64 ((q:Int)+1)),(26,.int .i64 ((q:Int)+1)),(27,.int .i64 ((rk k:Int))),(28,.bool (decide ((q:Int)+1≤(rk k:Int)))),(47,.string (s)),(48,.int .u8 (bAt s 0)),(50,.bool ((bAt s 0)==66)),(49,.bool ((bAt s 0)==66)),(57,.bool ((bAt s 0)==67)),(56,.bool ((bAt s 0)==67)),(58,.func (.func 206) #[] #[.pointer (some ⟨b11,0,none⟩),.pointer (some ⟨g5,0,none⟩)]),(59,.int .i64 ((rk k:Int))),(60,.int .i64 ((rk k:Int) - 1)),(61,.int .i64 ((rk k:Int)))]) ⟨rfl,rfl,rfl,rfl,rfl,rfl,rfl,rfl,rfl,rfl,rfl,rfl,rfl,rfl,rfl,rfl,rfl,rfl,rfl,rfl,trivial⟩ (own':=box b11 27 [.int .i64 ((rk k:Int)),v10]::box g5 3 [.int .i64 ((rk k:Int))]::ints 3 v10 ys::box g12 195 [.func (.func 206) #[] #[.pointer (some ⟨b11,0,none⟩),.pointer (some ⟨g5,0,none⟩)]]::strs 9 v2 nameL::box g1 27 [.int .i64 (0),.slice none 0 0]::own) rfl ?_
 refine G.step (OG.call [.int .i64 ((rk k:Int) - 1),.int .i64 ((rk k:Int)),.int .i64 (-2),.pointer (some ⟨b11,0,none⟩),.pointer (some ⟨g5,0,none⟩)] ent206 rfl rfl rfl rfl (by exact(put_w (by omega) (by omega) (by omega) (by first | exact hyl | (simp only[putF_len,bothF_len];exact hyl))))) rfl rfl rfl ?_
 rintro _ _ ⟨rfl,rfl⟩
 refine Zn (GE.blockN (Zt (Zs (Zr ?_))))
 refine Zd (OD.loadAgg rfl ti27 rfl (i:=0) rfl (us:=[.int .i64 ((rk k:Int)),v10]) rfl rfl) rfl ?_
 refine G.stepD0 (OD.store rfl ti27 rfl rfl (us:=[.int .i64 ((rk k:Int)),v10]) rfl rfl (allC rfl (allC (IsS.one hs9) rfl)) (i:=5) rfl rfl) rfl rfl ?_
 refine Za rfl (Zn (Zt (GC.ret ?_)))
 exact GE.body [2] 5 (resN rfl (RVs.cons (rv_cells ti27 rfl (i:=5) rfl rfl) (RVs.cons (rv_tmp rfl) RVs.nil)) rfl) rfl (⟨v10,congr (congrArg (fun(a0:Int) (a2:Bool)=>(.tuple #[.agg #[.int .i64 (a0),v10],.bool (a2)]:Value)) ((hpR.symm:((rk k:Int):Int)=partR s))) ((hpS.symm:(true:Bool)=(nameNo s).isSome)),hs9,congrArg (fun(l0:List Int)=>ints 3 v10 l0::own) ((by rw[hpD,hy,show q=rk k by omega];exact endC k hk12 hbb:putF (rk k:Int) ys ((rk k:Int) - 1) (rk k:Int) (-2)=partD s))⟩)
 replace hc17:=ne_of_beq_false hc17
 have hc17n:bAt (nameB k) 0≠67:=by rw[← hse];exact hc17
 refine Zs (Zr (Zd (OD.eql rfl rfl rfl) rfl ?_))
 refine Za rfl (Zn (Zt ?_))
 refine GC.cond rfl (fun hc18=>?_) (fun hc18=>?_)
 replace hc18:=eq_of_beq hc18
 have hbb:bAt (nameB k) 0=70:=by rw[← hse];exact hc18
 have hr2:=(endF k hk12 hbb).2
 refine Zr (Zd (OD.load rfl ti195 rfl (i:=0) rfl rfl) rfl ?_)
 refine G.at [2,2,1] 0 (env':=[(0,.string (s)),(2,.pointer (some ⟨g1,0,none⟩)),(4,.pointer (some ⟨g5,0,none⟩)),(5,.pointer (some ⟨b11,0,none⟩)),(6,.pointer (some ⟨g12,0,none⟩)),(7,.func (.func 207) #[] #[.pointer (some ⟨g12,0,none⟩)]),(8,.int .i64 ((q:Int)+1)),(26,.int .i64 ((q:Int)+1)),(27,.int .i64 ((rk k:Int))),(28,.bool (decide ((q:Int)+1≤(rk k:Int)))),(47,.string (s)),(48,.int .u8 (bAt s 0)),(50,.bool ((bAt s 0)==66)),(49,.bool ((bAt s 0)==66)),(57,.bool ((bAt s 0)==67)),(56,.bool ((bAt s 0)==67)),(64,.bool ((bAt s 0)==70)),(63,.bool ((bAt s 0)==70)),(65,.func (.func 206) #[] #[.pointer (some ⟨b11,0,none⟩),.pointer (some ⟨g5,0,none⟩)])]) ⟨rfl,rfl,rfl,rfl,rfl,rfl,rfl,rfl,rfl,rfl,rfl,rfl,rfl,rfl,rfl,rfl,rfl,rfl,rfl,trivial⟩ (own':=box b11 27 [.int .i64 ((rk k:Int)),v10]::box g5 3 [.int .i64 ((rk k:Int))]::ints 3 v10 ys::box g12 195 [.func (.func 206) #[] #[.pointer (some ⟨b11,0,none⟩),.pointer (some ⟨g5,0,none⟩)]]::strs 9 v2 nameL::box g1 27 [.int .i64 (0),.slice none 0 0]::own) rfl ?_
 refine G.step (OG.call [.int .i64 (3),.int .i64 (2),.int .i64 (-2),.pointer (some ⟨b11,0,none⟩),.pointer (some ⟨g5,0,none⟩)] ent206 rfl rfl rfl rfl (by exact(put_w (by omega) (by omega) (by omega) (by first | exact hyl | (simp only[putF_len,bothF_len];exact hyl))))) rfl rfl rfl ?_
 rintro _ _ ⟨rfl,rfl⟩
 refine Zn (GE.blockN (Zt (Zs (Zr ?_))))
 refine Zd (OD.loadAgg rfl ti27 rfl (i:=0) rfl (us:=[.int .i64 ((rk k:Int)),v10]) rfl rfl) rfl ?_
 refine G.stepD0 (OD.store rfl ti27 rfl rfl (us:=[.int .i64 ((rk k:Int)),v10]) rfl rfl (allC rfl (allC (IsS.one hs9) rfl)) (i:=5) rfl rfl) rfl rfl ?_
 refine Za rfl (Zn (Zt (GC.ret ?_)))
 exact GE.body [2] 5 (resN rfl (RVs.cons (rv_cells ti27 rfl (i:=5) rfl rfl) (RVs.cons (rv_tmp rfl) RVs.nil)) rfl) rfl (⟨v10,congr (congrArg (fun(a0:Int) (a2:Bool)=>(.tuple #[.agg #[.int .i64 (a0),v10],.bool (a2)]:Value)) ((hpR.symm:((rk k:Int):Int)=partR s))) ((hpS.symm:(true:Bool)=(nameNo s).isSome)),hs9,congrArg (fun(l0:List Int)=>ints 3 v10 l0::own) ((by rw[hpD,hy,show q=rk k by omega];exact(endF k hk12 hbb).1:putF (rk k:Int) ys 3 2 (-2)=partD s))⟩)
 replace hc18:=ne_of_beq_false hc18
 have hc18n:bAt (nameB k) 0≠70:=by rw[← hse];exact hc18
 refine Zs (Zr (Zd (OD.eql rfl rfl rfl) rfl ?_))
 refine Za rfl (Zn (Zt ?_))
 refine GC.cond rfl (fun hc19=>?_) (fun hc19=>?_)
 replace hc19:=eq_of_beq hc19
 have hbb:bAt (nameB k) 0=71:=by rw[← hse];exact hc19
 have hr2:=(endG k hk12 hbb).2
 refine Zr (Zd (OD.load rfl ti195 rfl (i:=0) rfl rfl) rfl ?_)
 refine G.at [2,2,1] 0 (env':=[(0,.string (s)),(2,.pointer (some ⟨g1,0,none⟩)),(4,.pointer (some ⟨g5,0,none⟩)),(5,.pointer (some ⟨b11,0,none⟩)),(6,.pointer (some ⟨g12,0,none⟩)),(7,.func (.func 207) #[] #[.pointer (some ⟨g12,0,none⟩)]),(8,.int .i64 ((q:Int)+1)),(26,.int .i64 ((q:Int)+1)),(27,.int .i64 ((rk k:Int))),(28,.bool (decide ((q:Int)+1≤(rk k:Int)))),(47,.string (s)),(48,.int .u8 (bAt s 0)),(50,.bool ((bAt s 0)==66)),(49,.bool ((bAt s 0)==66)),(57,.bool ((bAt s 0)==67)),(56,.bool ((bAt s 0)==67)),(64,.bool ((bAt s 0)==70)),(63,.bool ((bAt s 0)==70)),(68,.bool ((bAt s 0)==71)),(67,.bool ((bAt s 0)==71)),(69,.func (.func 206) #[] #[.pointer (some ⟨b11,0,none⟩),.pointer (some ⟨g5,0,none⟩)])]) ⟨rfl,rfl,rfl,rfl,rfl,rfl,rfl,rfl,rfl,rfl,rfl,rfl,rfl,rfl,rfl,rfl,rfl,rfl,rfl,rfl,rfl,trivial⟩ (own':=box b11 27 [.int .i64 ((rk k:Int)),v10]::box g5 3 [.int .i64 ((rk k:Int))]::ints 3 v10 ys::box g12 195 [.func (.func 206) #[] #[.pointer (some ⟨b11,0,none⟩),.pointer (some ⟨g5,0,none⟩)]]::strs 9 v2 nameL::box g1 27 [.int .i64 (0),.slice none 0 0]::own) rfl ?_
 refine G.step (OG.call [.int .i64 (1),.int .i64 (2),.int .i64 (-3),.pointer (some ⟨b11,0,none⟩),.pointer (some ⟨g5,0,none⟩)] ent206 rfl rfl rfl rfl (by exact(put_w (by omega) (by omega) (by omega) (by first | exact hyl | (simp only[putF_len,bothF_len];exact hyl))))) rfl rfl rfl ?_
 rintro _ _ ⟨rfl,rfl⟩
 refine Zn (GE.blockN (Zt (Zs (Zr ?_))))
 refine Zd (OD.loadAgg rfl ti27 rfl (i:=0) rfl (us:=[.int .i64 ((rk k:Int)),v10]) rfl rfl) rfl ?_
 refine G.stepD0 (OD.store rfl ti27 rfl rfl (us:=[.int .i64 ((rk k:Int)),v10]) rfl rfl (allC rfl (allC (IsS.one hs9) rfl)) (i:=5) rfl rfl) rfl rfl ?_
 refine Za rfl (Zn (Zt (GC.ret ?_)))
 exact GE.body [2] 5 (resN rfl (RVs.cons (rv_cells ti27 rfl (i:=5) rfl rfl) (RVs.cons (rv_tmp rfl) RVs.nil)) rfl) rfl (⟨v10,congr (congrArg (fun(a0:Int) (a2:Bool)=>(.tuple #[.agg #[.int .i64 (a0),v10],.bool (a2)]:Value)) ((hpR.symm:((rk k:Int):Int)=partR s))) ((hpS.symm:(true:Bool)=(nameNo s).isSome)),hs9,congrArg (fun(l0:List Int)=>ints 3 v10 l0::own) ((by rw[hpD,hy,show q=rk k by omega];exact(endG k hk12 hbb).1:putF (rk k:Int) ys 1 2 (-3)=partD s))⟩)
 replace hc19:=ne_of_beq_false hc19
 have hc19n:bAt (nameB k) 0≠71:=by rw[← hse];exact hc19
 refine Zs (Zr (Zd (OD.eql rfl rfl rfl) rfl ?_))
 refine Za rfl (Zn (Zt ?_))
 refine GC.cond rfl (fun hc20=>?_) (fun hc20=>?_)
 replace hc20:=eq_of_beq hc20
 have hbb:bAt (nameB k) 0=68:=by rw[← hse];exact hc20
 have hr2:=(endD k hk12 hbb).2
 refine Zs (Zr (Zm rfl ?_))
 refine G.at [0,1,1,0] 0 (env':=[(0,.string (s)),(2,.pointer (some ⟨g1,0,none⟩)),(4,.pointer (some ⟨g5,0,none⟩)),(5,.pointer (some ⟨b11,0,none⟩)),(6,.pointer (some ⟨g12,0,none⟩)),(7,.func (.func 207) #[] #[.pointer (some ⟨g12,0,none⟩)]),(8,.int .i64 ((q:Int)+1)),(26,.int .i64 ((q:Int)+1)),(27,.int .i64 ((rk k:Int))),(28,.bool (decide ((q:Int)+1≤(rk k:Int)))),(47,.string (s)),(48,.int .u8 (bAt s 0)),(50,.bool ((bAt s 0)==66)),(49,.bool ((bAt s 0)==66)),(57,.bool ((bAt s 0)==67)),(56,.bool ((bAt s 0)==67)),(64,.bool ((bAt s 0)==70)),(63,.bool ((bAt s 0)==70)),(68,.bool ((bAt s 0)==71)),(67,.bool ((bAt s 0)==71)),(72,.bool ((bAt s 0)==68)),(71,.bool ((bAt s 0)==68)),(73,.func (.func 207) #[] #[.pointer (some ⟨g12,0,none⟩)])]) ⟨rfl,rfl,rfl,rfl,rfl,rfl,rfl,rfl,rfl,rfl,rfl,rfl,rfl,rfl,rfl,rfl,rfl,rfl,rfl,rfl,rfl,rfl,rfl,trivial⟩ (own':=box g12 195 [.func (.func 206) #[] #[.pointer (some ⟨b11,0,none⟩),.pointer (some ⟨g5,0,none⟩)]]::box b11 27 [.int .i64 ((rk k:Int)),v10]::box g5 3 [.int .i64 ((rk k:Int))]::ints 3 v10 ys::strs 9 v2 nameL::box g1 27 [.int .i64 (0),.slice none 0 0]::own) rfl ?_
 refine G.step (OG.call [.int .i64 (2),.int .i64 (1),.pointer (some ⟨g12,0,none⟩)] ent207 rfl rfl rfl rfl (by exact(both_w (by omega) (by omega) (by omega) (by first | exact hyl | (simp only[putF_len,bothF_len];exact hyl))))) rfl rfl rfl ?_
 rintro _ _ ⟨rfl,rfl⟩
 refine Zn (Zt (Zs (Zr (Zm rfl (G.step (OG.call [.int .i64 (2),.int .i64 (3),.pointer (some ⟨g12,0,none⟩)] ent207 rfl rfl rfl rfl (by exact(both_w (by omega) (by omega) (by omega) (by first | exact hyl | (simp only[putF_len,bothF_len];exact hyl))))) rfl rfl rfl ?_)))))
 rintro _ _ ⟨rfl,rfl⟩
 refine Zn (Zt (Zr (Zm rfl (G.step (OG.call [.int .i64 (2),.int .i64 (4),.pointer (some ⟨g12,0,none⟩)] ent207 rfl rfl rfl rfl (by exact(both_w (by omega) (by omega) (by omega) (by first | exact hyl | (simp only[putF_len,bothF_len];exact hyl))))) rfl rfl rfl ?_))))
 rintro _ _ ⟨rfl,rfl⟩
 refine Zn (GE.blockN (Zt (Zs (Zr ?_))))
 refine Zd (OD.loadAgg rfl ti27 rfl (i:=1) rfl (us:=[.int .i64 ((rk k:Int)),v10]) rfl rfl) rfl ?_
 refine G.stepD0 (OD.store rfl ti27 rfl rfl (us:=[.int .i64 ((rk k:Int)),v10]) rfl rfl (allC rfl (allC (IsS.one hs9) rfl)) (i:=5) rfl rfl) rfl rfl ?_
 refine Za rfl (Zn (Zt (GC.ret ?_)))
 exact GE.body [3] 5 (resN rfl (RVs.cons (rv_cells ti27 rfl (i:=5) rfl rfl) (RVs.cons (rv_tmp rfl) RVs.nil)) rfl) rfl (⟨v10,congr (congrArg (fun(a0:Int) (a2:Bool)=>(.tuple #[.agg #[.int .i64 (a0),v10],.bool (a2)]:Value)) ((hpR.symm:((rk k:Int):Int)=partR s))) ((hpS.symm:(true:Bool)=(nameNo s).isSome)),hs9,congrArg (fun(l0:List Int)=>ints 3 v10 l0::own) ((by rw[hpD,hy,show q=rk k by omega];exact(endD k hk12 hbb).1:bothF (rk k:Int) (bothF (rk k:Int) (bothF (rk k:Int) ys 2 1) 2 3) 2 4=partD s))⟩)
 replace hc20:=ne_of_beq_false hc20
 have hc20n:bAt (nameB k) 0≠68:=by rw[← hse];exact hc20
 refine Zk (GE.blockN (Zt (Zs (Zr ?_))))
 refine Zd (OD.loadAgg rfl ti27 rfl (i:=2) rfl (us:=[.int .i64 ((rk k:Int)),v10]) rfl rfl) rfl ?_
 refine G.stepD0 (OD.store rfl ti27 rfl rfl (us:=[.int .i64 ((rk k:Int)),v10]) rfl rfl (allC rfl (allC (IsS.one hs9) rfl)) (i:=5) rfl rfl) rfl rfl ?_
 refine Za rfl (Zn (Zt (GC.ret ?_)))
 exact GE.body [1] 5 (resN rfl (RVs.cons (rv_cells ti27 rfl (i:=5) rfl rfl) (RVs.cons (rv_tmp rfl) RVs.nil)) rfl) rfl (⟨v10,congr (congrArg (fun(a0:Int) (a2:Bool)=>(.tuple #[.agg #[.int .i64 (a0),v10],.bool (a2)]:Value)) ((hpR.symm:((rk k:Int):Int)=partR s))) ((hpS.symm:(true:Bool)=(nameNo s).isSome)),hs9,congrArg (fun(l0:List Int)=>ints 3 v10 l0::own) ((by rw[hpD,hy,show q=rk k by omega];exact endA k hk12 ⟨by assumption,by assumption,by assumption,by assumption,by assumption⟩:ys=partD s))⟩)
theorem l5One_w {W:World}{own:List Asn}{s:ByteArray}{k:Nat}(hk12:k<12)(hse:s=nameB k):Spec Tryz.prog 105 [.string (s)] W own (fun v ow=>∃ (r1:Value),v = .agg #[.int .i64 ((rk k:Int)),r1]∧IsS r1∧ow=ints 3 r1 (oneD k)::own):=by
 have hrk:=rk_bd k hk12
 have hsz:s.size=2:=by rw[hse];exact nm_sz k hk12
 have hN0:0≤(rk k:Int)*(rk k:Int):=Int.mul_nonneg (by omega) (by omega)
 have hN1:(rk k:Int)*(rk k:Int)≤4*4:=Int.mul_le_mul (by omega) (by omega) (by omega) (by omega)
 refine Spec.enter Tryz.f105 _ Tryz.func105 rfl (n:=118) rfl rfl ?_
 refine Zs (Zr (G.step (OG.alloc rfl ti27 (zs:=[.int .i64 (0),.slice none 0 0]) rfl) rfl rfl rfl ?_))
 rintro _ _ ⟨g1,rfl,rfl⟩
 refine Zn (Zt (Zs (Zr (Zm rfl (Zd (OD.indexStr rfl st9 rfl rfl (by omega)) rfl ?_)))))
 refine Zd (OD.eqv (OD.sub rfl rfl rfl) (congrArg (Value.int .u8) ((by rw[hse];exact nm_rk k hk12):(IntKind.u8.wrap ((bAt s 1) - 48):Int)=((rk k:Int))))) rfl ?_
 refine Zd (OD.convI rfl cv5_3 rfl (by omega)) rfl ?_
 refine Za rfl (Zn (Zt (Zs (Zr (Zm rfl (Zm rfl (Zm rfl (Zd (OD.mulI rfl rfl rfl (by omega)) rfl ?_))))))))
 refine G.step (OG.makeInts rfl et22 rfl rfl (by omega)) rfl rfl rfl ?_
 rintro v2 _ ⟨hs3,rfl⟩
 refine Zd (OD.build (idx:=[0,1]) (xs:=[.tmp 11,.tmp 15]) (vs:=[.int .i64 ((rk k:Int)),v2]) (cs:=[[.int .i64 ((rk k:Int))],[v2]]) (zs:=[.int .i64 (0),.slice none 0 0]) (r:=[.int .i64 ((rk k:Int)),v2]) rfl ti27 rfl rfl rfl ⟨rfl,⟨(one_cells (IsS.one hs3)),trivial⟩⟩ rfl) rfl ?_
 refine G.step (OG.alloc rfl ti27 (zs:=[.int .i64 (0),.slice none 0 0]) rfl) rfl rfl rfl ?_
 rintro _ _ ⟨g4,rfl,rfl⟩
 refine G.stepD0 (OD.store rfl ti27 rfl rfl (us:=[.int .i64 ((rk k:Int)),v2]) rfl rfl (allC rfl (allC (IsS.one hs3) rfl)) (i:=0) rfl rfl) rfl rfl ?_
 refine Zn (Zt (Zs (Zs (Zr (Za rfl (Zn (Zt (GC.block ?_))))))))
 refine GC.loop (ι:=Nat × List Int) (fun⟨q,ys⟩=>[(0,.string (s)),(2,.pointer (some ⟨g1,0,none⟩)),(3,.int .i64 ((rk k:Int))),(4,.pointer (some ⟨g4,0,none⟩)),(5,.int .i64 ((q:Int)))]) (fun⟨q,ys⟩=>box g4 27 [.int .i64 ((rk k:Int)),v2]::ints 3 v2 ys::box g1 27 [.int .i64 (0),.slice none 0 0]::own) (fun⟨q,ys⟩=>(q≤rk k)∧((ys.length:Int)=(rk k:Int)*(rk k:Int))∧(ys=(List.range q).foldl (itS k) (List.replicate ((rk k:Int)*(rk k:Int)).toNat 0))) (fun⟨q,ys⟩=>rk k - q) (0,List.replicate ((rk k:Int)*(rk k:Int)).toNat 0) (⟨by omega,by rw[List.length_replicate];omega,rfl⟩) ⟨rfl,rfl,rfl,rfl,rfl,trivial⟩ [] 0 rfl ?_
 rintro⟨q,ys⟩ ⟨hq,hyl,hy⟩
 refine Zs (Zs (Zr (Zm rfl (Zm rfl (Zd (OD.lss rfl rfl rfl) rfl ?_)))))
 refine Zn (Zt ?_)
 refine GC.cond rfl (fun hc5=>?_) (fun hc5=>?_)
 replace hc5:=of_decide_eq_true hc5
 have hx:=idx_bd (n:=(rk k:Int)) (i:=q) (j:=q) ⟨by omega,by omega⟩ ⟨by omega,by omega⟩ (by omega)
 refine Zk (Zt (Zs (GC.block (Zs (Zr ?_)))))
 refine Zd (OD.fieldAddr rfl rfl fa27_1) rfl ?_
 refine Zd (OD.load rfl ti22 rfl (i:=0) rfl rfl) rfl ?_
 refine Zm rfl (Zm rfl (Zd (OD.mulI rfl rfl rfl (by omega)) rfl ?_))
 refine Zm rfl (Zd (OD.addI rfl rfl rfl (by omega)) rfl ?_)
 refine Zd (OD.indexAddr rfl et22 rfl (Ent.ints (i:=1) rfl) rfl (by omega)) rfl ?_
 refine G.stepD0 (OD.storeInt rfl ti3 rfl rfl (i:=1) rfl (by omega)) rfl rfl ?_
 refine Zn (Zt (Zs (Zr (Zm rfl (Zd (OD.addI rfl rfl rfl (by first | omega | (simp only[List.length_set,List.length_replicate];omega))) rfl ?_)))))
 refine Zm rfl (Zd (OD.lss rfl rfl rfl) rfl ?_)
 refine Zm rfl ?_
 rcases Bool.eq_false_or_eq_true (decide ((q:Int)+1<(rk k:Int))) with hg6 | hg6
 have hg6e:=hg6
 refine G.at [] 0 (env':=[(0,.string (s)),(2,.pointer (some ⟨g1,0,none⟩)),(3,.int .i64 ((rk k:Int))),(4,.pointer (some ⟨g4,0,none⟩)),(5,.int .i64 ((q:Int))),(17,.int .i64 ((q:Int))),(18,.int .i64 ((rk k:Int))),(19,.bool (decide ((q:Int)<(rk k:Int)))),(22,.pointer (some ⟨g4,1,none⟩)),(23,v2),(24,.int .i64 ((q:Int))),(25,.int .i64 ((rk k:Int))),(26,.int .i64 ((q:Int)*(rk k:Int))),(27,.int .i64 ((q:Int))),(28,.int .i64 (((q:Int)*(rk k:Int))+(q:Int))),(29,elemPtr v2 1 ((((q:Int)*(rk k:Int))+(q:Int):Int).toNat)),(30,.int .i64 ((q:Int))),(31,.int .i64 ((q:Int)+1)),(32,.int .i64 ((rk k:Int))),(33,.bool true),(34,.bool true)]) (⟨rfl,rfl,rfl,rfl,rfl,rfl,rfl,rfl,rfl,rfl,rfl,rfl,rfl,rfl,rfl,rfl,rfl,rfl,rfl,(congrArg (fun b=>some (Value.bool b)) hg6e),(congrArg (fun b=>some (Value.bool b)) hg6e),trivial⟩) rfl ?_
 replace hg6:=of_decide_eq_true hg6
 refine G.stepGD (OD.move rfl rfl) rfl rfl rfl rfl rfl ?_
 refine G.stepGD (OD.indexStr rfl st9 rfl rfl (by first | omega | (simp only[List.length_set,List.length_replicate];omega))) rfl rfl rfl rfl rfl ?_
 refine G.stepGD (OD.eqv (OD.neq rfl rfl rfl) (congrArg (Value.bool) ((by rw[hse];exact nm_D k hk12):_=(k != 9)))) rfl rfl rfl rfl rfl ?_
 refine Zd (OD.pickT rfl rfl rfl) rfl ?_
 refine Zn (Zt ?_)
 refine GC.cond rfl (fun hc7=>?_) (fun hc7=>?_)
 have hx2:=idx_bd (n:=(rk k:Int)) (i:=q) (j:=(q:Int)+1) ⟨by omega,by omega⟩ ⟨by omega,by omega⟩ (by omega)
 have hx3:=idx_bd (n:=(rk k:Int)) (i:=(q:Int)+1) (j:=q) ⟨by omega,by omega⟩ ⟨by omega,by omega⟩ (by omega)
 refine Zs (Zr (Zd (OD.fieldAddr rfl rfl fa27_1) rfl ?_))
 refine Zd (OD.load rfl ti22 rfl (i:=0) rfl rfl) rfl ?_
 refine Zm rfl (Zm rfl (Zd (OD.mulI rfl rfl rfl (by first | omega | (simp only[List.length_set,List.length_replicate];omega))) rfl ?_))
 refine Zm rfl (Zd (OD.addI rfl rfl rfl (by first | omega | (simp only[List.length_set,List.length_replicate];omega))) rfl ?_)
 refine Zd (OD.addI rfl rfl rfl (by first | omega | (simp only[List.length_set,List.length_replicate];omega))) rfl ?_
 refine Zd (OD.indexAddr rfl et22 rfl (Ent.ints (i:=1) rfl) rfl (by first | omega | (simp only[List.length_set,List.length_replicate];omega))) rfl ?_
 refine G.stepD0 (OD.storeInt rfl ti3 rfl rfl (i:=1) rfl (by first | omega | (simp only[List.length_set,List.length_replicate];omega))) rfl rfl ?_
 refine Zn (Zt (Zr (Zd (OD.fieldAddr rfl rfl fa27_1) rfl ?_)))
 refine Zd (OD.load rfl ti22 rfl (i:=0) rfl rfl) rfl ?_
 refine Zm rfl (Zd (OD.addI rfl rfl rfl (by first | omega | (simp only[List.length_set,List.length_replicate];omega))) rfl ?_)
 refine Zm rfl (Zd (OD.mulI rfl rfl rfl (by first | omega | (simp only[List.length_set,List.length_replicate];omega))) rfl ?_)
 refine Zm rfl (Zd (OD.addI rfl rfl rfl (by first | omega | (simp only[List.length_set,List.length_replicate];omega))) rfl ?_)
 refine Zd (OD.indexAddr rfl et22 rfl (Ent.ints (i:=1) rfl) rfl (by first | omega | (simp only[List.length_set,List.length_replicate];omega))) rfl ?_
 refine G.stepD0 (OD.storeInt rfl ti3 rfl rfl (i:=1) rfl (by first | omega | (simp only[List.length_set,List.length_replicate];omega))) rfl rfl ?_
 refine Zn (GE.blockN (Zt (Zr ?_)))
 refine Zm rfl (Zd (OD.addI rfl rfl rfl (by first | omega | (simp only[List.length_set,List.length_replicate];omega))) rfl ?_)
 refine Za rfl (Zn ?_)
 exact GE.again (q+1,(((ys).set ((((q:Int)*(rk k:Int))+(q:Int):Int).toNat) (2)).set (((((q:Int)*(rk k:Int))+(q:Int))+1:Int).toNat) (-1)).set (((((q:Int)+1)*(rk k:Int))+(q:Int):Int).toNat) (-1)) (⟨by omega,by simp only[List.length_set];exact hyl,fold_next hy (by unfold itS;by_cases h9:k=9 <;> by_cases hlt:(q:Int)+1<rk k <;> first | (rw[if_pos ⟨hlt,h9⟩];done) | (rw[if_neg (fun hh=>hh.2 h9)];done) | (rw[if_neg (fun hh=>hlt hh.1)];done) | (exfalso;omega) | (exfalso;simp_all;done))⟩) (by first | omega | (dsimp only;omega)) ⟨rfl,rfl,rfl,rfl,rfl,trivial⟩ [] 0 rfl
 refine Zk (GE.blockN (Zt (Zr ?_)))
 refine Zm rfl (Zd (OD.addI rfl rfl rfl (by first | omega | (simp only[List.length_set,List.length_replicate];omega))) rfl ?_)
 refine Za rfl (Zn ?_)
 exact GE.again (q+1,(ys).set ((((q:Int)*(rk k:Int))+(q:Int):Int).toNat) (2)) (⟨by omega,by simp only[List.length_set];exact hyl,fold_next hy (by unfold itS;by_cases h9:k=9 <;> by_cases hlt:(q:Int)+1<rk k <;> first | (rw[if_pos ⟨hlt,h9⟩];done) | (rw[if_neg (fun hh=>hh.2 h9)];done) | (rw[if_neg (fun hh=>hlt hh.1)];done) | (exfalso;omega) | (exfalso;simp_all;done))⟩) (by first | omega | (dsimp only;omega)) ⟨rfl,rfl,rfl,rfl,rfl,trivial⟩ [] 0 rfl
 have hg6e:=hg6
 refine G.at [] 0 (env':=[(0,.string (s)),(2,.pointer (some ⟨g1,0,none⟩)),(3,.int .i64 ((rk k:Int))),(4,.pointer (some ⟨g4,0,none⟩)),(5,.int .i64 ((q:Int))),(17,.int .i64 ((q:Int))),(18,.int .i64 ((rk k:Int))),(19,.bool (decide ((q:Int)<(rk k:Int)))),(22,.pointer (some ⟨g4,1,none⟩)),(23,v2),(24,.int .i64 ((q:Int))),(25,.int .i64 ((rk k:Int))),(26,.int .i64 ((q:Int)*(rk k:Int))),(27,.int .i64 ((q:Int))),(28,.int .i64 (((q:Int)*(rk k:Int))+(q:Int))),(29,elemPtr v2 1 ((((q:Int)*(rk k:Int))+(q:Int):Int).toNat)),(30,.int .i64 ((q:Int))),(31,.int .i64 ((q:Int)+1)),(32,.int .i64 ((rk k:Int))),(33,.bool false),(34,.bool false)]) (⟨rfl,rfl,rfl,rfl,rfl,rfl,rfl,rfl,rfl,rfl,rfl,rfl,rfl,rfl,rfl,rfl,rfl,rfl,rfl,(congrArg (fun b=>some (Value.bool b)) hg6e),(congrArg (fun b=>some (Value.bool b)) hg6e),trivial⟩) rfl ?_
 replace hg6:=of_decide_eq_false hg6
 refine G.skipG rfl rfl rfl rfl rfl rfl (G.skipG rfl rfl rfl rfl rfl rfl (G.skipG rfl rfl rfl rfl rfl rfl ?_))
 refine Zd (OD.pickF rfl rfl rfl) rfl ?_
 refine Zn (Zt (GC.condF rfl (Zk (GE.blockN (Zt (Zr ?_))))))
 refine Zm rfl (Zd (OD.addI rfl rfl rfl (by first | omega | (simp only[List.length_set,List.length_replicate];omega))) rfl ?_)
 refine Za rfl (Zn ?_)
 exact GE.again (q+1,(ys).set ((((q:Int)*(rk k:Int))+(q:Int):Int).toNat) (2)) (⟨by omega,by simp only[List.length_set];exact hyl,fold_next hy (by unfold itS;by_cases h9:k=9 <;> by_cases hlt:(q:Int)+1<rk k <;> first | (rw[if_pos ⟨hlt,h9⟩];done) | (rw[if_neg (fun hh=>hh.2 h9)];done) | (rw[if_neg (fun hh=>hlt hh.1)];done) | (exfalso;omega) | (exfalso;simp_all;done))⟩) (by first | omega | (dsimp only;omega)) ⟨rfl,rfl,rfl,rfl,rfl,trivial⟩ [] 0 rfl
 replace hc5:=of_decide_eq_false hc5
 refine GC.exit (Zp (Zp (GE.hit (Zt (Zs (Zs (Zr ?_)))))))
 refine Zm rfl (Zd (OD.indexStr rfl st9 rfl rfl (by omega)) rfl ?_)
 refine Zn (Zt (GC.block (Zs (Zr ?_))))
 refine Zd (OD.eql rfl rfl rfl) rfl ?_
 refine Za rfl (Zn (Zt ?_))
 refine GC.cond rfl (fun hc8=>?_) (fun hc8=>?_)
 replace hc8:=eq_of_beq hc8
 have hbb:bAt (nameB k) 0=66:=by rw[← hse];exact hc8
 have hr2:=rk_B k hk12 hbb
 have hx2:=idx_bd (n:=(rk k:Int)) (i:=(rk k:Int) - 1) (j:=(rk k:Int) - 2) ⟨by omega,by omega⟩ ⟨by omega,by omega⟩ (by omega)
 refine Zr (Zd (OD.fieldAddr rfl rfl fa27_1) rfl ?_)
 refine Zd (OD.load rfl ti22 rfl (i:=0) rfl rfl) rfl ?_
 refine Zm rfl (Zd (OD.subI rfl rfl rfl (by omega)) rfl ?_)
 refine Zm rfl (Zd (OD.mulI rfl rfl rfl (by omega)) rfl ?_)
 refine Zm rfl (Zd (OD.addI rfl rfl rfl (by omega)) rfl ?_)
 refine Zd (OD.subI rfl rfl rfl (by omega)) rfl ?_
 refine Zd (OD.indexAddr rfl et22 rfl (Ent.ints (i:=1) rfl) rfl (by omega)) rfl ?_
 refine G.stepD0 (OD.storeInt rfl ti3 rfl rfl (i:=1) rfl (by omega)) rfl rfl ?_
 refine Zn (GE.blockN (Zt (Zs (Zr ?_))))
 refine Zd (OD.loadAgg rfl ti27 rfl (i:=0) rfl (us:=[.int .i64 ((rk k:Int)),v2]) rfl rfl) rfl ?_
 refine G.stepD0 (OD.store rfl ti27 rfl rfl (us:=[.int .i64 ((rk k:Int)),v2]) rfl rfl (allC rfl (allC (IsS.one hs3) rfl)) (i:=2) rfl rfl) rfl rfl ?_
 refine Zn (Zt (GC.ret ?_))
 exact GE.body [1] 2 (resN rfl (RVs.cons (rv_cells ti27 rfl (i:=2) rfl rfl) RVs.nil) rfl) rfl (⟨v2,rfl,hs3,congrArg (fun(l0:List Int)=>ints 3 v2 l0::own) ((by rw[hy,show q=rk k by omega];exact sndB k hk12 hbb:(ys).set ((((((rk k:Int) - 1)*(rk k:Int))+(rk k:Int)) - 2:Int).toNat) (-2)=oneD k))⟩)
 replace hc8:=ne_of_beq_false hc8
 have hc8n:bAt (nameB k) 0≠66:=by rw[← hse];exact hc8
 refine Zs (Zr (Zd (OD.eql rfl rfl rfl) rfl ?_))
 refine Za rfl (Zn (Zt ?_))
 refine GC.cond rfl (fun hc9=>?_) (fun hc9=>?_)
 replace hc9:=eq_of_beq hc9
 have hbb:bAt (nameB k) 0=67:=by rw[← hse];exact hc9
 have hr2:=rk_C k hk12 hbb
 have hx2:=idx_bd (n:=(rk k:Int)) (i:=(rk k:Int) - 2) (j:=(rk k:Int) - 1) ⟨by omega,by omega⟩ ⟨by omega,by omega⟩ (by omega)
 refine Zr (Zd (OD.fieldAddr rfl rfl fa27_1) rfl ?_)
 refine Zd (OD.load rfl ti22 rfl (i:=0) rfl rfl) rfl ?_
 refine Zm rfl (Zd (OD.subI rfl rfl rfl (by omega)) rfl ?_)
 refine Zm rfl (Zd (OD.mulI rfl rfl rfl (by omega)) rfl ?_)
 refine Zm rfl (Zd (OD.addI rfl rfl rfl (by omega)) rfl ?_)
 refine Zd (OD.subI rfl rfl rfl (by omega)) rfl ?_
 refine Zd (OD.indexAddr rfl et22 rfl (Ent.ints (i:=1) rfl) rfl (by omega)) rfl ?_
 refine G.stepD0 (OD.storeInt rfl ti3 rfl rfl (i:=1) rfl (by omega)) rfl rfl ?_
 refine Zn (GE.blockN (Zt (Zs (Zr ?_))))
 refine Zd (OD.loadAgg rfl ti27 rfl (i:=0) rfl (us:=[.int .i64 ((rk k:Int)),v2]) rfl rfl) rfl ?_
 refine G.stepD0 (OD.store rfl ti27 rfl rfl (us:=[.int .i64 ((rk k:Int)),v2]) rfl rfl (allC rfl (allC (IsS.one hs3) rfl)) (i:=2) rfl rfl) rfl rfl ?_
 refine Zn (Zt (GC.ret ?_))
 exact GE.body [1] 2 (resN rfl (RVs.cons (rv_cells ti27 rfl (i:=2) rfl rfl) RVs.nil) rfl) rfl (⟨v2,rfl,hs3,congrArg (fun(l0:List Int)=>ints 3 v2 l0::own) ((by rw[hy,show q=rk k by omega];exact sndC k hk12 hbb:(ys).set ((((((rk k:Int) - 2)*(rk k:Int))+(rk k:Int)) - 1:Int).toNat) (-2)=oneD k))⟩)
 replace hc9:=ne_of_beq_false hc9
 have hc9n:bAt (nameB k) 0≠67:=by rw[← hse];exact hc9
 refine Zs (Zr (Zd (OD.eql rfl rfl rfl) rfl ?_))
 refine Za rfl (Zn (Zt ?_))
 refine GC.cond rfl (fun hc10=>?_) (fun hc10=>?_)
 replace hc10:=eq_of_beq hc10
 have hbb:bAt (nameB k) 0=68:=by rw[← hse];exact hc10
 have hr2:=(sndD k hk12 hbb).2
 have hrr:(rk k:Int)*(rk k:Int)=16:=by rw[hr2];rfl
 refine Zs (Zr (Za rfl (Zn (Zt (GC.block ?_)))))
 refine GC.loop (ι:=Nat × List Int) (fun⟨p,zs⟩=>[(2,.pointer (some ⟨g1,0,none⟩)),(3,.int .i64 ((rk k:Int))),(4,.pointer (some ⟨g4,0,none⟩)),(6,.int .i64 ((p:Int)))]) (fun⟨p,zs⟩=>box g4 27 [.int .i64 ((rk k:Int)),v2]::ints 3 v2 zs::box g1 27 [.int .i64 (0),.slice none 0 0]::own) (fun⟨p,zs⟩=>(p≤4)∧((zs.length:Int)=16)∧(zs=(List.range p).foldl (itD k) ys)) (fun⟨p,zs⟩=>4 - p) (0,ys) (⟨by omega,by omega,rfl⟩) ⟨rfl,rfl,rfl,rfl,trivial⟩ [] 0 rfl ?_
 rintro⟨p,zs⟩ ⟨hp,hzl,hz⟩
 refine Zs (Zs (Zr (Zm rfl (Zd (OD.lss rfl rfl rfl) rfl ?_))))
 refine Zn (Zt ?_)
 refine GC.cond rfl (fun hc11=>?_) (fun hc11=>?_)
 replace hc11:=of_decide_eq_true hc11
 have hx:=idx_bd (n:=(rk k:Int)) (i:=p) (j:=1) ⟨by omega,by omega⟩ ⟨by omega,by omega⟩ (by omega)
 refine Zk (Zt (Zs (GC.block (Zs (Zr ?_)))))
 refine Zm rfl (Zd (OD.neq rfl rfl rfl) rfl ?_)
 refine Zn (Zt ?_)
 refine GC.cond rfl (fun hc12=>?_) (fun hc12=>?_)
 replace hc12:=ne_of_bne hc12
 refine Zs (Zr (Zd (OD.fieldAddr rfl rfl fa27_1) rfl ?_))
 refine Zd (OD.load rfl ti22 rfl (i:=0) rfl rfl) rfl ?_
 refine Zm rfl (Zm rfl (Zd (OD.addI rfl rfl rfl (by omega)) rfl ?_))
 refine Zd (OD.indexAddr rfl et22 rfl (Ent.ints (i:=1) rfl) rfl (by omega)) rfl ?_
 refine G.stepD0 (OD.storeInt rfl ti3 rfl rfl (i:=1) rfl (by omega)) rfl rfl ?_
 refine Zn (Zt (Zr (Zd (OD.fieldAddr rfl rfl fa27_1) rfl ?_)))
 refine Zd (OD.load rfl ti22 rfl (i:=0) rfl rfl) rfl ?_
 refine Zm rfl (Zm rfl (Zd (OD.mulI rfl rfl rfl (by first | omega | (simp only[List.length_set,List.length_replicate];omega))) rfl ?_))
 refine Zd (OD.addI rfl rfl rfl (by first | omega | (simp only[List.length_set,List.length_replicate];omega))) rfl ?_
 refine Zd (OD.indexAddr rfl et22 rfl (Ent.ints (i:=1) rfl) rfl (by first | omega | (simp only[List.length_set,List.length_replicate];omega))) rfl ?_
 refine G.stepD0 (OD.storeInt rfl ti3 rfl rfl (i:=1) rfl (by first | omega | (simp only[List.length_set,List.length_replicate];omega))) rfl rfl ?_
 refine Zn (GE.blockN (Zt (Zr ?_)))
 refine Zm rfl (Zd (OD.addI rfl rfl rfl (by first | omega | (simp only[List.length_set,List.length_replicate];omega))) rfl ?_)
 exact Za rfl (Zn (GE.again (p+1,((zs).set (((rk k:Int)+(p:Int):Int).toNat) (-1)).set ((((p:Int)*(rk k:Int))+1:Int).toNat) (-1)) (⟨by omega,by first | exact hzl | (simp only[List.length_set];exact hzl),fold_next hz (by unfold itD;by_cases h1:(p:Int)=1 <;> first | (rw[if_pos h1];done) | (rw[if_neg (fun h=>h h1)];done) | (exfalso;omega))⟩) (by first | omega | (dsimp only;omega)) ⟨rfl,rfl,rfl,rfl,trivial⟩ [] 0 rfl))
 replace hc12:=eq_of_bne_false hc12
 refine Zk (GE.blockN (Zt (Zr ?_)))
 refine Zm rfl (Zd (OD.addI rfl rfl rfl (by omega)) rfl ?_)
 exact Za rfl (Zn (GE.again (p+1,zs) (⟨by omega,by first | exact hzl | (simp only[List.length_set];exact hzl),fold_next hz (by unfold itD;by_cases h1:(p:Int)=1 <;> first | (rw[if_pos h1];done) | (rw[if_neg (fun h=>h h1)];done) | (exfalso;omega))⟩) (by first | omega | (dsimp only;omega)) ⟨rfl,rfl,rfl,rfl,trivial⟩ [] 0 rfl))
 replace hc11:=of_decide_eq_false hc11
 refine GC.exit (Zp (Zp (GE.hit (GE.blockN (Zt (Zs (Zr ?_)))))))
 refine Zd (OD.loadAgg rfl ti27 rfl (i:=0) rfl (us:=[.int .i64 ((rk k:Int)),v2]) rfl rfl) rfl ?_
 refine G.stepD0 (OD.store rfl ti27 rfl rfl (us:=[.int .i64 ((rk k:Int)),v2]) rfl rfl (allC rfl (allC (IsS.one hs3) rfl)) (i:=2) rfl rfl) rfl rfl ?_
 refine Zn (Zt (GC.ret ?_))
 exact GE.body [1] 2 (resN rfl (RVs.cons (rv_cells ti27 rfl (i:=2) rfl rfl) RVs.nil) rfl) rfl (⟨v2,rfl,hs3,congrArg (fun(l0:List Int)=>ints 3 v2 l0::own) ((by rw[hz,show p=4 by omega,hy,show q=rk k by omega];exact(sndD k hk12 hbb).1:zs=oneD k))⟩)
 replace hc10:=ne_of_beq_false hc10
 have hc10n:bAt (nameB k) 0≠68:=by rw[← hse];exact hc10
 refine Zs (Zr (Zd (OD.eql rfl rfl rfl) rfl ?_))
 refine Za rfl (Zn (Zt ?_))
 refine GC.cond rfl (fun hc13=>?_) (fun hc13=>?_)
 replace hc13:=eq_of_beq hc13
 have hbb:bAt (nameB k) 0=70:=by rw[← hse];exact hc13
 have hr2:=(sndF k hk12 hbb).2
 have hrr:(rk k:Int)*(rk k:Int)=16:=by rw[hr2];rfl
 refine Zr (Zd (OD.fieldAddr rfl rfl fa27_1) rfl ?_)
 refine Zd (OD.load rfl ti22 rfl (i:=0) rfl rfl) rfl ?_
 refine Zm rfl (Zd (OD.mulI rfl rfl rfl (by omega)) rfl ?_)
 refine Zd (OD.addI rfl rfl rfl (by omega)) rfl ?_
 refine Zd (OD.indexAddr rfl et22 rfl (Ent.ints (i:=1) rfl) rfl (by omega)) rfl ?_
 refine G.stepD0 (OD.storeInt rfl ti3 rfl rfl (i:=1) rfl (by omega)) rfl rfl ?_
 refine Zn (GE.blockN (Zt (Zs (Zr ?_))))
 refine Zd (OD.loadAgg rfl ti27 rfl (i:=0) rfl (us:=[.int .i64 ((rk k:Int)),v2]) rfl rfl) rfl ?_
 refine G.stepD0 (OD.store rfl ti27 rfl rfl (us:=[.int .i64 ((rk k:Int)),v2]) rfl rfl (allC rfl (allC (IsS.one hs3) rfl)) (i:=2) rfl rfl) rfl rfl ?_
 refine Zn (Zt (GC.ret ?_))
 exact GE.body [1] 2 (resN rfl (RVs.cons (rv_cells ti27 rfl (i:=2) rfl rfl) RVs.nil) rfl) rfl (⟨v2,rfl,hs3,congrArg (fun(l0:List Int)=>ints 3 v2 l0::own) ((by rw[hy,show q=rk k by omega];exact(sndF k hk12 hbb).1:(ys).set (((2*(rk k:Int))+1:Int).toNat) (-2)=oneD k))⟩)
 replace hc13:=ne_of_beq_false hc13
 have hc13n:bAt (nameB k) 0≠70:=by rw[← hse];exact hc13
 refine Zs (Zr (Zd (OD.eql rfl rfl rfl) rfl ?_))
 refine Za rfl (Zn (Zt ?_))
 refine GC.cond rfl (fun hc14=>?_) (fun hc14=>?_)
 replace hc14:=eq_of_beq hc14
 have hbb:bAt (nameB k) 0=71:=by rw[← hse];exact hc14
 have hr2:=(sndG k hk12 hbb).2
 have hrr:(rk k:Int)*(rk k:Int)=4:=by rw[hr2];rfl
 refine Zr (Zd (OD.fieldAddr rfl rfl fa27_1) rfl ?_)
 refine Zd (OD.load rfl ti22 rfl (i:=0) rfl rfl) rfl ?_
 refine Zd (OD.indexAddr rfl et22 rfl (Ent.ints (i:=1) rfl) rfl (by omega)) rfl ?_
 refine G.stepD0 (OD.storeInt rfl ti3 rfl rfl (i:=1) rfl (by omega)) rfl rfl ?_
 refine Zn (GE.blockN (Zt (Zs (Zr ?_))))
 refine Zd (OD.loadAgg rfl ti27 rfl (i:=0) rfl (us:=[.int .i64 ((rk k:Int)),v2]) rfl rfl) rfl ?_
 refine G.stepD0 (OD.store rfl ti27 rfl rfl (us:=[.int .i64 ((rk k:Int)),v2]) rfl rfl (allC rfl (allC (IsS.one hs3) rfl)) (i:=2) rfl rfl) rfl rfl ?_
 refine Zn (Zt (GC.ret ?_))
 exact GE.body [1] 2 (resN rfl (RVs.cons (rv_cells ti27 rfl (i:=2) rfl rfl) RVs.nil) rfl) rfl (⟨v2,rfl,hs3,congrArg (fun(l0:List Int)=>ints 3 v2 l0::own) ((by rw[hy,show q=rk k by omega];exact(sndG k hk12 hbb).1:(ys).set (1) (-3)=oneD k))⟩)
 replace hc14:=ne_of_beq_false hc14
 have hc14n:bAt (nameB k) 0≠71:=by rw[← hse];exact hc14
 refine Zk (GE.blockN (Zt (Zs (Zr ?_))))
 refine Zd (OD.loadAgg rfl ti27 rfl (i:=0) rfl (us:=[.int .i64 ((rk k:Int)),v2]) rfl rfl) rfl ?_
 refine G.stepD0 (OD.store rfl ti27 rfl rfl (us:=[.int .i64 ((rk k:Int)),v2]) rfl rfl (allC rfl (allC (IsS.one hs3) rfl)) (i:=2) rfl rfl) rfl rfl ?_
 refine Zn (Zt (GC.ret ?_))
 exact GE.body [1] 2 (resN rfl (RVs.cons (rv_cells ti27 rfl (i:=2) rfl rfl) RVs.nil) rfl) rfl (⟨v2,rfl,hs3,congrArg (fun(l0:List Int)=>ints 3 v2 l0::own) ((by rw[hy,show q=rk k by omega];exact sndA k hk12 ⟨by assumption,by assumption,by assumption,by assumption,by assumption⟩:ys=oneD k))⟩)
theorem joined_w {W:World}{own:List Asn}{vb:Value}{vs:List Value}{ks:List Nat}(sb:IsS vb)(eb:Ent own fun w=>Sl w vb (rowC ks vs).length 2 (rowC ks vs).flatten)(em:∀ k,k<ks.length→Ent own fun w=>Ints w (vs.getD k undef) (oneD (ks.getD k 0)))(hlen:vs.length=ks.length)(hall:AllS vs)(h12:∀ k∈ks,k<12)(hr4:rkS ks≤4)(hk4:ks.length≤1000000):Spec Tryz.prog 186 [vb] W own (fun v ow=>∃ (r1:Value),v = .agg #[.int .i64 ((rkS ks:Nat)),r1]∧IsS r1∧ow=ints 3 r1 (joinD ks)::own):=by
 have hrl:=rowC_len hlen
 refine Spec.enter Tryz.f186 _ Tryz.func186 rfl (n:=79) rfl rfl ?_
 refine Zs (Zr (G.step (OG.alloc rfl ti27 (zs:=[.int .i64 (0),.slice none 0 0]) rfl) rfl rfl rfl ?_))
 rintro _ _ ⟨g1,rfl,rfl⟩
 refine Zn (Zt (Zs (Zr (Zd (OD.build (idx:=[]) (xs:=[]) (vs:=[]) (cs:=[]) (zs:=[.int .i64 (0),.slice none 0 0]) (r:=[.int .i64 (0),.slice none 0 0]) rfl ti27 rfl rfl rfl trivial rfl) rfl ?_))))
 refine G.step (OG.alloc rfl ti27 (zs:=[.int .i64 (0),.slice none 0 0]) rfl) rfl rfl rfl ?_
 rintro _ _ ⟨g2,rfl,rfl⟩
 refine G.stepD0 (OD.store rfl ti27 rfl rfl (us:=[.int .i64 (0),.slice none 0 0]) rfl rfl rfl (i:=0) rfl rfl) rfl rfl ?_
 refine Zn (Zt (Zs (Zs (Zr (Zm rfl (Zd (OD.len rfl rfl et179 rfl (Ent.drop 2 eb)) rfl ?_))))))
 refine Zm rfl (Zn (Zt (GC.block ?_)))
 refine GC.loop (ι:=Nat × Int) (fun⟨i,r⟩=>[(0,vb),(2,.pointer (some ⟨g1,0,none⟩)),(3,.pointer (some ⟨g2,0,none⟩)),(12,vb),(13,.int .i64 (((rowC ks vs).length:Nat))),(14,.int .i64 ((i:Int)))]) (fun⟨i,r⟩=>box g2 27 [.int .i64 (r),.slice none 0 0]::box g1 27 [.int .i64 (0),.slice none 0 0]::own) (fun⟨i,r⟩=>(i≤ks.length)∧(r=(rkS (ks.take i):Nat))) (fun⟨i,r⟩=>ks.length - i) (0,0) (⟨by omega,by simp[rkS]⟩) ⟨rfl,rfl,rfl,rfl,rfl,rfl,trivial⟩ [] 0 rfl ?_
 rintro⟨i,r⟩ ⟨hi,hr⟩
 refine Zs (Zr (Zd (OD.lss rfl rfl rfl) rfl ?_))
 refine Zn (Zt (Zs ?_))
 refine GC.cond rfl (fun hc3=>?_) (fun hc3=>?_)
 replace hc3:=of_decide_eq_true hc3
 have hrb:=rkS_take_le ks i
 have hkb:=rk_bd (ks.getD i 0) (h12 _ (by simp[List.getD,show i<ks.length by omega]))
 refine Zk (Zt (Zs (GC.block (Zs (Zr ?_)))))
 refine Zd (OD.indexAddr rfl et179 rfl (Ent.drop 2 eb) rfl (by omega)) rfl ?_
 refine Zd (OD.loadRws rfl ti27 rfl (Ent.drop 2 eb) (by omega) (rowC_wf _ _) (rowC_get hlen (by omega))) rfl ?_
 refine G.step (OG.alloc rfl ti27 (zs:=[.int .i64 (0),.slice none 0 0]) rfl) rfl rfl rfl ?_
 rintro _ _ ⟨g4,rfl,rfl⟩
 refine G.stepD0 (OD.store rfl ti27 rfl rfl (us:=[.int .i64 ((rk (ks.getD (i) 0):Int)),(vs.getD (i) undef)]) rfl rfl (allC rfl (allC (IsS.one (hall.get (by omega))) rfl)) (i:=0) rfl rfl) rfl rfl ?_
 refine Zn (Zt (Zr (Zd (OD.fieldAddr rfl rfl fa27_0) rfl ?_)))
 refine Zd (OD.load rfl ti3 rfl (i:=1) rfl rfl) rfl ?_
 refine Zd (OD.fieldAddr rfl rfl fa27_0) rfl ?_
 refine Zd (OD.load rfl ti3 rfl (i:=0) rfl rfl) rfl ?_
 refine Zd (OD.addI rfl rfl rfl (by omega)) rfl ?_
 refine Zd (OD.fieldAddr rfl rfl fa27_0) rfl ?_
 refine G.stepD0 (OD.store rfl ti3 rfl rfl (us:=[.int .i64 (r+(rk (ks.getD (i) 0):Int))]) rfl rfl rfl (i:=1) rfl rfl) rfl rfl ?_
 refine Zn (GE.blockN (Zt (Zr ?_)))
 refine Zd (OD.addI rfl rfl rfl (by omega)) rfl ?_
 exact Zm rfl (Zn (GE.again (i+1,r+(rk (ks.getD (i) 0):Int)) (⟨by omega,by rw[rkS_take_succ (by omega),hr];simp⟩) (by first | omega | (dsimp only;omega)) ⟨rfl,rfl,rfl,rfl,rfl,rfl,trivial⟩ [1,1] 1 rfl))
 replace hc3:=of_decide_eq_false hc3
 have hrN:r=(rkS ks:Nat):=by rw[hr,List.take_of_length_le (by omega)]
 have hN0:0≤r*r:=Int.mul_nonneg (by omega) (by omega)
 have hN1:r*r≤4*4:=Int.mul_le_mul (by omega) (by omega) (by omega) (by omega)
 refine GC.exit (Zp (Zp (GE.hit (Zt (Zs (Zr ?_))))))
 refine Zd (OD.fieldAddr rfl rfl fa27_0) rfl ?_
 refine Zd (OD.load rfl ti3 rfl (i:=0) rfl rfl) rfl ?_
 refine Zd (OD.fieldAddr rfl rfl fa27_0) rfl ?_
 refine Zd (OD.load rfl ti3 rfl (i:=0) rfl rfl) rfl ?_
 refine Zd (OD.mulI rfl rfl rfl (by omega)) rfl ?_
 refine G.step (OG.makeInts rfl et22 rfl rfl (by omega)) rfl rfl rfl ?_
 rintro v5 _ ⟨hs6,rfl⟩
 refine Zd (OD.fieldAddr rfl rfl fa27_1) rfl ?_
 refine G.stepD0 (OD.store rfl ti22 rfl rfl (us:=[v5]) (one_cells (IsS.one hs6)) rfl (allC (IsS.one hs6) rfl) (i:=1) rfl rfl) rfl rfl ?_
 refine Zn (Zt (Zs (Zr (Za rfl (Zn (Zt (Zs (Zs (Zr (Zm rfl (Zd (OD.len rfl rfl et179 rfl (Ent.drop 3 eb)) rfl ?_)))))))))))
 refine Zm rfl (Zn (Zt (GC.block ?_)))
 refine GC.loop (ι:=Nat × Int × List Int) (fun⟨b,a,ys⟩=>[(2,.pointer (some ⟨g1,0,none⟩)),(3,.pointer (some ⟨g2,0,none⟩)),(32,vb),(33,.int .i64 (((rowC ks vs).length:Nat))),(6,.int .i64 (a)),(34,.int .i64 ((b:Int)))]) (fun⟨b,a,ys⟩=>ints 3 v5 ys::box g2 27 [.int .i64 (r),v5]::box g1 27 [.int .i64 (0),.slice none 0 0]::own) (fun⟨b,a,ys⟩=>(b≤ks.length)∧(a=(rkS (ks.take b):Nat))∧((ys.length:Int)=r*r)∧(ys=(List.range b).foldl (jB ks r) (List.replicate (r*r:Int).toNat 0))) (fun⟨b,a,ys⟩=>ks.length - b) (0,0,List.replicate (r*r:Int).toNat 0) (⟨by omega,by simp[rkS],by rw[List.length_replicate];omega,rfl⟩) ⟨rfl,rfl,rfl,rfl,rfl,rfl,trivial⟩ [] 0 rfl ?_
 rintro⟨b,a,ys⟩ ⟨hb,ha,hyl,hy⟩
 refine Zs (Zr (Zd (OD.lss rfl rfl rfl) rfl ?_))
 refine Zn (Zt (Zs ?_))
 refine GC.cond rfl (fun hc7=>?_) (fun hc7=>?_)
 replace hc7:=of_decide_eq_true hc7
 have hkb:=rk_bd (ks.getD b 0) (h12 _ (by simp[List.getD,show b<ks.length by omega]))
 have hol:=oneD_len (ks.getD b 0) (h12 _ (by simp[List.getD,show b<ks.length by omega]))
 have hab0:=rkS_take_le ks (b+1)
 rw[rkS_take_succ (by omega)] at hab0
 have hab:a+(rk (ks.getD b 0):Int)≤r:=by omega
 refine Zk (Zt (Zs (GC.block (Zs (Zr ?_)))))
 refine Zd (OD.indexAddr rfl et179 rfl (Ent.drop 3 eb) rfl (by omega)) rfl ?_
 refine Zd (OD.loadRws rfl ti27 rfl (Ent.drop 3 eb) (by omega) (rowC_wf _ _) (rowC_get hlen (by omega))) rfl ?_
 refine G.step (OG.alloc rfl ti27 (zs:=[.int .i64 (0),.slice none 0 0]) rfl) rfl rfl rfl ?_
 rintro _ _ ⟨g8,rfl,rfl⟩
 refine G.stepD0 (OD.store rfl ti27 rfl rfl (us:=[.int .i64 ((rk (ks.getD (b) 0):Int)),(vs.getD (b) undef)]) rfl rfl (allC rfl (allC (IsS.one (hall.get (by omega))) rfl)) (i:=0) rfl rfl) rfl rfl ?_
 refine Zn (Zt (Zs (Zs (Zr (Zd (OD.fieldAddr rfl rfl fa27_0) rfl ?_)))))
 refine Zd (OD.load rfl ti3 rfl (i:=0) rfl rfl) rfl ?_
 refine Zm rfl (Zn (Zt (GC.block ?_)))
 refine GC.loop (ι:=Nat × List Int) (fun⟨i,zs⟩=>[(2,.pointer (some ⟨g1,0,none⟩)),(3,.pointer (some ⟨g2,0,none⟩)),(32,vb),(33,.int .i64 (((rowC ks vs).length:Nat))),(6,.int .i64 (a)),(34,.int .i64 ((b:Int))),(8,.pointer (some ⟨g8,0,none⟩)),(39,.int .i64 ((rk (ks.getD (b) 0):Int))),(40,.int .i64 ((i:Int)))]) (fun⟨i,zs⟩=>box g8 27 [.int .i64 ((rk (ks.getD (b) 0):Int)),(vs.getD (b) undef)]::ints 3 v5 zs::box g2 27 [.int .i64 (r),v5]::box g1 27 [.int .i64 (0),.slice none 0 0]::own) (fun⟨i,zs⟩=>(i≤rk (ks.getD (b) 0))∧((zs.length:Int)=r*r)∧(zs=(List.range i).foldl (jI r a (ks.getD (b) 0)) ys)) (fun⟨i,zs⟩=>rk (ks.getD (b) 0) - i) (0,ys) (⟨by omega,hyl,rfl⟩) ⟨rfl,rfl,rfl,rfl,rfl,rfl,rfl,rfl,rfl,trivial⟩ [] 0 rfl ?_
 rintro⟨i,zs⟩ ⟨hi,hzl,hz⟩
 refine Zs (Zr (Zd (OD.lss rfl rfl rfl) rfl ?_))
 refine Zn (Zt (Zs ?_))
 refine GC.cond rfl (fun hc9=>?_) (fun hc9=>?_)
 replace hc9:=of_decide_eq_true hc9
 refine Zk (Zt (Zs (GC.block (Zs (Zr ?_)))))
 refine Zm rfl (Za rfl (Zn (Zt (Zs (Zr (Zd (OD.fieldAddr rfl rfl fa27_0) rfl ?_))))))
 refine Zd (OD.load rfl ti3 rfl (i:=0) rfl rfl) rfl ?_
 refine Zm rfl (Zn (Zt (GC.block ?_)))
 refine GC.loop (ι:=Nat × List Int) (fun⟨j,ws⟩=>[(2,.pointer (some ⟨g1,0,none⟩)),(3,.pointer (some ⟨g2,0,none⟩)),(32,vb),(33,.int .i64 (((rowC ks vs).length:Nat))),(6,.int .i64 (a)),(34,.int .i64 ((b:Int))),(8,.pointer (some ⟨g8,0,none⟩)),(39,.int .i64 ((rk (ks.getD (b) 0):Int))),(40,.int .i64 ((i:Int))),(9,.int .i64 ((i:Int))),(44,.int .i64 ((rk (ks.getD (b) 0):Int))),(45,.int .i64 ((j:Int)))]) (fun⟨j,ws⟩=>box g8 27 [.int .i64 ((rk (ks.getD (b) 0):Int)),(vs.getD (b) undef)]::ints 3 v5 ws::box g2 27 [.int .i64 (r),v5]::box g1 27 [.int .i64 (0),.slice none 0 0]::own) (fun⟨j,ws⟩=>(j≤rk (ks.getD (b) 0))∧((ws.length:Int)=r*r)∧(ws=(List.range j).foldl (fun(o:List Int) (j:Nat)=>o.set ((a+(i:Int))*r+a+(j:Int)).toNat ((oneD (ks.getD (b) 0)).getD ((i:Int)*(rk (ks.getD (b) 0):Int)+(j:Int)).toNat 0)) zs)) (fun⟨j,ws⟩=>rk (ks.getD (b) 0) - j) (0,zs) (⟨by omega,hzl,rfl⟩) ⟨rfl,rfl,rfl,rfl,rfl,rfl,rfl,rfl,rfl,rfl,rfl,rfl,trivial⟩ [] 0 rfl ?_
 rintro⟨j,ws⟩ ⟨hj,hwl,hw⟩
 refine Zs (Zr (Zd (OD.lss rfl rfl rfl) rfl ?_))
 refine Zn (Zt (Zs ?_))
 refine GC.cond rfl (fun hc10=>?_) (fun hc10=>?_)
 replace hc10:=of_decide_eq_true hc10
 have hx:=idx_bd (n:=r) (i:=a+(i:Int)) (j:=a+(j:Int)) ⟨by omega,by omega⟩ ⟨by omega,by omega⟩ (by omega)
 have hx2:=idx_bd (n:=(rk (ks.getD b 0):Int)) (i:=(i:Int)) (j:=(j:Int)) ⟨by omega,by omega⟩ ⟨by omega,by omega⟩ (by omega)
 have hol2:((oneD (ks.getD b 0)).length:Int)=(rk (ks.getD b 0):Int)*(rk (ks.getD b 0):Int):=by rw[hol];exact Int.natCast_mul _ _
 refine Zk (Zt (Zs (GC.block (Zs (Zr ?_)))))
 refine Zm rfl (Za rfl (Zn (Zt ?_)))
 refine GC.at [] 0 (env':=[(2,.pointer (some ⟨g1,0,none⟩)),(3,.pointer (some ⟨g2,0,none⟩)),(32,vb),(33,.int .i64 (((rowC ks vs).length:Nat))),(6,.int .i64 (a)),(34,.int .i64 ((b:Int))),(8,.pointer (some ⟨g8,0,none⟩)),(39,.int .i64 ((rk (ks.getD (b) 0):Int))),(40,.int .i64 ((i:Int))),(9,.int .i64 ((i:Int))),(44,.int .i64 ((rk (ks.getD (b) 0):Int))),(45,.int .i64 ((j:Int))),(10,.int .i64 ((j:Int)))]) ⟨rfl,rfl,rfl,rfl,rfl,rfl,rfl,rfl,rfl,rfl,rfl,rfl,rfl,trivial⟩ rfl ?_
 refine GC.par (its:=[Z0 48 (.pointer (some ⟨g2,1,none⟩)),
     Z1 49 [(0,48)] v5,
     Z0 50 (.int .i64 (a)),
     Z0 51 (.int .i64 ((i:Int))),
     Z1 52 [(2,50),(3,51)] (.int .i64 (a+(i:Int))),
     Z0 53 (.pointer (some ⟨g2,0,none⟩)),
     Z1 54 [(5,53)] (.int .i64 (r)),
     Z1 55 [(4,52),(6,54)] (.int .i64 ((a+(i:Int))*r)),
     Z0 56 (.int .i64 (a)),
     Z1 57 [(7,55),(8,56)] (.int .i64 (((a+(i:Int))*r)+a)),
     Z0 58 (.int .i64 ((j:Int))),
     Z1 59 [(9,57),(10,58)] (.int .i64 ((((a+(i:Int))*r)+a)+(j:Int))),
     Z0 60 (.pointer (some ⟨g8,1,none⟩)),
     Z1 61 [(12,60)] ((vs.getD (b) undef)),
     Z0 62 (.int .i64 ((i:Int))),
     Z0 63 (.pointer (some ⟨g8,0,none⟩)),
     Z1 64 [(15,63)] (.int .i64 ((rk (ks.getD (b) 0):Int))),
     Z1 65 [(14,62),(16,64)] (.int .i64 ((i:Int)*(rk (ks.getD (b) 0):Int))),
     Z0 66 (.int .i64 ((j:Int))),
     Z1 67 [(17,65),(18,66)] (.int .i64 (((i:Int)*(rk (ks.getD (b) 0):Int))+(j:Int))),
     Z1 68 [(13,61),(19,67)] (elemPtr ((vs.getD (b) undef)) 1 ((((i:Int)*(rk (ks.getD (b) 0):Int))+(j:Int):Int).toNat)),
     Z1 69 [(20,68)] (.int .i64 ((oneD (ks.getD (b) 0)).getD ((((i:Int)*(rk (ks.getD (b) 0):Int))+(j:Int):Int).toNat) 0)),
     Z1 70 [(1,49),(11,59)] (elemPtr v5 1 (((((a+(i:Int))*r)+a)+(j:Int):Int).toNat))]) (by kernel_rfl) (by kernel_rfl) (Zc ?_ (Zc ?_ (Zc ?_ (Zc ?_ (Zc ?_ (Zc ?_ (Zc ?_ (Zc ?_ (Zc ?_ (Zc ?_ (Zc ?_ (Zc ?_ (Zc ?_ (Zc ?_ (Zc ?_ (Zc ?_ (Zc ?_ (Zc ?_ (Zc ?_ (Zc ?_ (Zc ?_ (Zc ?_ (Zc ?_ POps.nil))))))))))))))))))))))) ?_
 exact fun θ R hd=>Zq (OD.fieldAddr rfl rfl fa27_1) rfl
 exact fun θ R ⟨h0d,_⟩=>Zq (OD.load rfl ti22 rfl (i:=2) rfl rfl) rfl
 exact fun θ R hd=>Zq (OD.move rfl rfl) rfl
 exact fun θ R hd=>Zq (OD.move rfl rfl) rfl
 exact fun θ R ⟨h2d,h3d,_⟩=>Zq (OD.addI rfl rfl rfl (by omega)) rfl
 exact fun θ R hd=>Zq (OD.fieldAddr rfl rfl fa27_0) rfl
 exact fun θ R ⟨h5d,_⟩=>Zq (OD.load rfl ti3 rfl (i:=2) rfl rfl) rfl
 exact fun θ R ⟨h4d,h6d,_⟩=>Zq (OD.mulI rfl rfl rfl (by omega)) rfl
 exact fun θ R hd=>Zq (OD.move rfl rfl) rfl
 exact fun θ R ⟨h7d,h8d,_⟩=>Zq (OD.addI rfl rfl rfl (by omega)) rfl
 exact fun θ R hd=>Zq (OD.move rfl rfl) rfl
 exact fun θ R ⟨h9d,h10d,_⟩=>Zq (OD.addI rfl rfl rfl (by omega)) rfl
 exact fun θ R hd=>Zq (OD.fieldAddr rfl rfl fa27_1) rfl
 exact fun θ R ⟨h12d,_⟩=>Zq (OD.load rfl ti22 rfl (i:=0) rfl rfl) rfl
 exact fun θ R hd=>Zq (OD.move rfl rfl) rfl
 exact fun θ R hd=>Zq (OD.fieldAddr rfl rfl fa27_0) rfl
 exact fun θ R ⟨h15d,_⟩=>Zq (OD.load rfl ti3 rfl (i:=0) rfl rfl) rfl
 exact fun θ R ⟨h14d,h16d,_⟩=>Zq (OD.mulI rfl rfl rfl (by omega)) rfl
 exact fun θ R hd=>Zq (OD.move rfl rfl) rfl
 exact fun θ R ⟨h17d,h18d,_⟩=>Zq (OD.addI rfl rfl rfl (by omega)) rfl
 exact fun θ R ⟨h13d,h19d,_⟩=>Zq (OD.indexAddr rfl et22 rfl (Ent.drop 4 ((em (b) (by omega)).app)) rfl (by omega)) rfl
 exact fun θ R ⟨h20d,_⟩=>Zq (OD.loadInt rfl ti3 rfl (Ent.drop 4 ((em (b) (by omega)).app)) (by omega)) rfl
 exact fun θ R ⟨h1d,h11d,_⟩=>Zq (OD.indexAddr rfl et22 rfl (Ent.ints (i:=1) rfl) rfl (by omega)) rfl
 intro θ hall
 obtain⟨_,_,_,_,_,_,_,_,_,_,_,_,_,_,_,_,_,_,_,_,_,_,_,_⟩:=hall
 refine G.at [] 0 (env':=[(2,.pointer (some ⟨g1,0,none⟩)),(3,.pointer (some ⟨g2,0,none⟩)),(32,vb),(33,.int .i64 (((rowC ks vs).length:Nat))),(6,.int .i64 (a)),(34,.int .i64 ((b:Int))),(8,.pointer (some ⟨g8,0,none⟩)),(39,.int .i64 ((rk (ks.getD (b) 0):Int))),(40,.int .i64 ((i:Int))),(9,.int .i64 ((i:Int))),(44,.int .i64 ((rk (ks.getD (b) 0):Int))),(45,.int .i64 ((j:Int))),(69,.int .i64 ((oneD (ks.getD (b) 0)).getD ((((i:Int)*(rk (ks.getD (b) 0):Int))+(j:Int):Int).toNat) 0)),(70,elemPtr v5 1 (((((a+(i:Int))*r)+a)+(j:Int):Int).toNat))]) ⟨rfl,rfl,rfl,rfl,rfl,rfl,rfl,rfl,rfl,rfl,rfl,rfl,rfl,rfl,trivial⟩ (own':=box g8 27 [.int .i64 ((rk (ks.getD (b) 0):Int)),(vs.getD (b) undef)]::ints 3 v5 ws::box g2 27 [.int .i64 (r),v5]::box g1 27 [.int .i64 (0),.slice none 0 0]::own) rfl ?_
 show G _ _ _ [_] _ _ _ _
 refine G.stepD0 (OD.storeInt rfl ti3 rfl rfl (i:=1) rfl (by omega)) rfl rfl ?_
 refine Zn (GE.blockN (Zt (Zr ?_)))
 refine Zd (OD.addI rfl rfl rfl (by first | omega | (simp only[List.length_set,List.length_replicate];omega))) rfl ?_
 exact Zm rfl (Zn (GE.again (j+1,(ws).set (((((a+(i:Int))*r)+a)+(j:Int):Int).toNat) ((oneD (ks.getD (b) 0)).getD ((((i:Int)*(rk (ks.getD (b) 0):Int))+(j:Int):Int).toNat) 0)) (⟨by omega,by rw[List.length_set];exact hwl,fold_next hw rfl⟩) (by first | omega | (dsimp only;omega)) ⟨rfl,rfl,rfl,rfl,rfl,rfl,rfl,rfl,rfl,rfl,rfl,rfl,trivial⟩ [] 0 rfl))
 replace hc10:=of_decide_eq_false hc10
 refine GC.exit (Zp (Zp (GE.hit (GE.blockN (Zt (Zr ?_))))))
 refine Zd (OD.addI rfl rfl rfl (by omega)) rfl ?_
 exact Zm rfl (Zn (GE.again (i+1,ws) (⟨by omega,hwl,fold_next hz (by rw[hw,show j=rk (ks.getD b 0) by omega];rfl)⟩) (by first | omega | (dsimp only;omega)) ⟨rfl,rfl,rfl,rfl,rfl,rfl,rfl,rfl,rfl,trivial⟩ [] 0 rfl))
 replace hc9:=of_decide_eq_false hc9
 refine GC.exit (Zp (Zp (GE.hit (Zt (Zr ?_)))))
 refine Zm rfl (Zd (OD.fieldAddr rfl rfl fa27_0) rfl ?_)
 refine Zd (OD.load rfl ti3 rfl (i:=0) rfl rfl) rfl ?_
 refine Zd (OD.addI rfl rfl rfl (by omega)) rfl ?_
 refine Za rfl (Zn (GE.blockN (Zt (Zr ?_))))
 refine Zd (OD.addI rfl rfl rfl (by omega)) rfl ?_
 exact Zm rfl (Zn (GE.again (b+1,a+(rk (ks.getD (b) 0):Int),zs) (⟨by omega,by rw[rkS_take_succ (by omega),ha];simp,hzl,fold_next hy (by rw[hz,show i=rk (ks.getD b 0) by omega,ha];rfl)⟩) (by first | omega | (dsimp only;omega)) ⟨rfl,rfl,rfl,rfl,rfl,rfl,trivial⟩ [1,1,1] 1 rfl))
 replace hc7:=of_decide_eq_false hc7
 refine GC.exit (Zp (Zp (GE.hit (Zt (Zs (Zr ?_))))))
 refine Zd (OD.loadAgg rfl ti27 rfl (i:=1) rfl (us:=[.int .i64 (r),v5]) rfl rfl) rfl ?_
 refine G.stepD0 (OD.store rfl ti27 rfl rfl (us:=[.int .i64 (r),v5]) rfl rfl (allC rfl (allC (IsS.one hs6) rfl)) (i:=2) rfl rfl) rfl rfl ?_
 refine Zn (Zt (GC.ret ?_))
 exact GE.body [0] 2 (resN rfl (RVs.cons (rv_cells ti27 rfl (i:=2) rfl rfl) RVs.nil) rfl) rfl (⟨v5,congrArg (fun(a0:Int)=>(.agg #[.int .i64 (a0),v5]:Value)) ((hrN:(r:Int)=(rkS ks:Nat))),hs6,congrArg (fun(l0:List Int)=>ints 3 v5 l0::own) ((by rw[hy,show b=ks.length by omega,hrN];rfl:ys=joinD ks))⟩)
theorem cartanOf_w {W:World}{own:List Asn}{s:ByteArray}(hg:Ent own fun w=>∃ m,w.cell? ⟨Tryz.l146_ren.g 1,0,none⟩=some (.int .i64 m))(hs:s.size≤1048576):Spec Tryz.prog 157 [.string (s)] W own (fun v ow=>∃ (r1:Value),v = .tuple #[.agg #[.int .i64 (cR s),r1],.bool ((cF s).isSome)]∧IsS r1∧ow=ints 3 r1 (cD s)::own):=by
 have hps:=plusSplit_le s
 refine Spec.enter Tryz.f157 _ Tryz.func157 rfl (n:=42) rfl rfl ?_
 refine Zs (Zr (G.step (OG.alloc rfl ti27 (zs:=[.int .i64 (0),.slice none 0 0]) rfl) rfl rfl rfl ?_))
 rintro _ _ ⟨g1,rfl,rfl⟩
 refine Za rfl (Zn (Zt (Zs (Zr (Zm rfl (G.step (OG.call [.string (s),.string (⟨#[43]⟩)] ent184 rfl rfl rfl rfl (by exact(split_w _ ((Ent.drop 1 hg)) (by omega)))) rfl rfl rfl ?_))))))
 rintro v2 _ ⟨_,rfl,hs3,rfl⟩
 refine Za rfl (Zn (Zt (Zs (Zr (G.step (OG.buildRws0 rfl et179) rfl rfl rfl ?_)))))
 rintro v4 _ ⟨hs5,rfl⟩
 refine Za rfl (Zn (Zt (Zs (Zr (Za rfl (Zn (Zt (Zs (Zs (Zr (Zm rfl (Zd (OD.len rfl rfl et113 rfl (Ent.strs (i:=1) rfl)) rfl ?_))))))))))))
 refine Zm rfl (Zn (Zt (GC.block ?_)))
 refine GC.many0 (ints 3) ?_
 refine GC.loop (ι:=Nat × List Nat × List Value × Value × Int) (fun⟨i,ks,vs,bv,r⟩=>[(2,.pointer (some ⟨g1,0,none⟩)),(14,v2),(15,.int .i64 (((plusSplit s).length:Nat))),(5,bv),(6,.int .i64 (r)),(16,.int .i64 ((i:Int)))]) (fun⟨i,ks,vs,bv,r⟩=>many (ints 3) vs (ks.map oneD)::rws 27 2 bv (rowC ks vs)::strs 9 v2 (plusSplit s)::box g1 27 [.int .i64 (0),.slice none 0 0]::own) (fun⟨i,ks,vs,bv,r⟩=>(i≤(plusSplit s).length)∧(Cut s i ks)∧(ks.length=i)∧(vs.length=ks.length)∧(AllS vs)∧(IsS bv)∧(r=(rkS ks:Nat))) (fun⟨i,ks,vs,bv,r⟩=>(plusSplit s).length - i) (0,[],[],v4,0) (⟨by omega,rfl,rfl,rfl,AllS.nil,hs5,rfl⟩) ⟨rfl,rfl,rfl,rfl,rfl,rfl,trivial⟩ [] 0 rfl ?_
 rintro⟨i,ks,vs,bv,r⟩ ⟨hi,hc,hki,hlen,hall,hbv,hr⟩
 refine Zs (Zr (Zd (OD.lss rfl rfl rfl) rfl ?_))
 refine Zn (Zt (Zs ?_))
 refine GC.cond rfl (fun hc6=>?_) (fun hc6=>?_)
 replace hc6:=of_decide_eq_true hc6
 have hle4:=rkS_le hc.lt
 refine Zk (Zt (Zs (GC.block (Zs (Zr ?_)))))
 refine Zd (OD.indexAddr rfl et113 rfl (Ent.strs (i:=2) rfl) rfl (by omega)) rfl ?_
 refine Zd (OD.loadStr rfl ti9 rfl (Ent.strs (i:=2) rfl) (by omega)) rfl ?_
 refine Za rfl (Zn (Zt (Zs (Zr (Zm rfl (G.step (OG.call [.string ((plusSplit s).getD (i) ⟨#[]⟩)] ent185 rfl rfl rfl rfl (by exact partCartan_w)) rfl rfl rfl ?_))))))
 rintro _ _ ⟨v7,rfl,hs8,rfl⟩
 refine Zm rfl (Zd (OD.extract rfl rfl rfl) rfl ?_)
 refine Zd (OD.extract rfl rfl rfl) rfl ?_
 refine G.step (OG.alloc rfl ti27 (zs:=[.int .i64 (0),.slice none 0 0]) rfl) rfl rfl rfl ?_
 rintro _ _ ⟨g9,rfl,rfl⟩
 refine G.stepD0 (OD.store rfl ti27 rfl rfl (us:=[.int .i64 (partR ((plusSplit s).getD (i) ⟨#[]⟩)),v7]) rfl rfl (allC rfl (allC (IsS.one hs8) rfl)) (i:=0) rfl rfl) rfl rfl ?_
 refine Za rfl (Zn (Zt (Zs (Zs (Zr (Zm rfl (Zd (OD.not rfl rfl) rfl ?_)))))))
 refine Zn (Zt ?_)
 refine GC.cond rfl (fun hc10=>?_) (fun hc10=>?_)
 replace hc10:=eq_false_of_not hc10
 obtain⟨hp1,hp2,hp3⟩:=cF_none (hc.bad (by omega) (none_of hc10))
 refine Zs (Zr (Zd (OD.build (idx:=[]) (xs:=[]) (vs:=[]) (cs:=[]) (zs:=[.int .i64 (0),.slice none 0 0]) (r:=[.int .i64 (0),.slice none 0 0]) rfl ti27 rfl rfl rfl trivial rfl) rfl ?_))
 refine G.stepD0 (OD.store rfl ti27 rfl rfl (us:=[.int .i64 (0),.slice none 0 0]) rfl rfl rfl (i:=5) rfl rfl) rfl rfl ?_
 refine Za rfl (Zn (Zt (GC.ret (GE.passR (GE.blockR (GE.passR (GE.passR (GE.blockR (GE.passR ?_)))))))))
 refine GE.nilInts 3 ?_
 exact GE.body [0] 6 (resN rfl (RVs.cons (rv_cells ti27 rfl (i:=6) rfl rfl) (RVs.cons (rv_tmp rfl) RVs.nil)) rfl) rfl (⟨(.slice none 0 0),congr (congrArg (fun(a0:Int) (a2:Bool)=>(.tuple #[.agg #[.int .i64 (a0),(.slice none 0 0)],.bool (a2)]:Value)) ((hp1.symm:(0:Int)=cR s))) ((hp3.symm:(false:Bool)=(cF s).isSome)),IsS.nil,congrArg (fun(l0:List Int)=>ints 3 (.slice none 0 0) l0::own) ((hp2.symm : []=cD s))⟩)
 replace hc10:=eq_true_of_not hc10
 obtain⟨k,hk⟩:=some_of hc10
 obtain⟨hk12,hse⟩:=nameNo_some hk
 have hrk:=rk_bd k hk12
 have hpR:partR ((plusSplit s).getD (i) ⟨#[]⟩)=(rk k:Nat):=by simp only[partR,hk]
 have hpD:partD ((plusSplit s).getD (i) ⟨#[]⟩)=oneD k:=by simp only[partD,hk]
 have hrl:=rowC_len hlen
 refine Zk (Zt (Zs (Zr (Zm rfl (Zd (OD.fieldAddr rfl rfl fa27_0) rfl ?_)))))
 refine Zd (OD.load rfl ti3 rfl (i:=0) rfl rfl) rfl ?_
 refine Zd (OD.addI rfl rfl rfl (by omega)) rfl ?_
 refine Za rfl (Zn (Zt (Zr (Zm rfl (Zd (OD.loadAgg rfl ti27 rfl (i:=0) rfl (us:=[.int .i64 (partR ((plusSplit s).getD (i) ⟨#[]⟩)),v7]) rfl rfl) rfl ?_)))))
 refine G.step (OG.buildRws rfl et179 (us:=[.int .i64 (partR ((plusSplit s).getD (i) ⟨#[]⟩)),v7]) rfl rfl rfl rfl) rfl rfl rfl ?_
 rintro v11 _ ⟨hs12,rfl⟩
 refine G.step (OG.appendRws 4 rfl rfl et179 rfl rfl rfl (Ent.rws (i:=0) rfl) (allC rfl (allC (IsS.one hs8) rfl)) (by simp[maxLen] <;> omega)) rfl rfl rfl ?_
 rintro v13 _ ⟨hs14,rfl⟩
 refine Za rfl (Zn (GE.blockN (Zt (Zr ?_))))
 refine Zd (OD.addI rfl rfl rfl (by omega)) rfl ?_
 refine Zm rfl (Zn ?_)
 refine GE.at [2,2,2,1,1,1] 1 (env':=[(2,.pointer (some ⟨g1,0,none⟩)),(14,v2),(15,.int .i64 (((plusSplit s).length:Nat))),(17,.bool (decide ((i:Int)<((plusSplit s).length:Nat)))),(18,elemPtr v2 1 (i)),(19,.string ((plusSplit s).getD (i) ⟨#[]⟩)),(8,.string ((plusSplit s).getD (i) ⟨#[]⟩)),(21,.string ((plusSplit s).getD (i) ⟨#[]⟩)),(22,.tuple #[.agg #[.int .i64 (partR ((plusSplit s).getD (i) ⟨#[]⟩)),v7],.bool ((nameNo ((plusSplit s).getD (i) ⟨#[]⟩)).isSome)]),(20,.tuple #[.agg #[.int .i64 (partR ((plusSplit s).getD (i) ⟨#[]⟩)),v7],.bool ((nameNo ((plusSplit s).getD (i) ⟨#[]⟩)).isSome)]),(23,.agg #[.int .i64 (partR ((plusSplit s).getD (i) ⟨#[]⟩)),v7]),(24,.bool ((nameNo ((plusSplit s).getD (i) ⟨#[]⟩)).isSome)),(9,.pointer (some ⟨g9,0,none⟩)),(10,.bool ((nameNo ((plusSplit s).getD (i) ⟨#[]⟩)).isSome)),(25,.bool ((nameNo ((plusSplit s).getD (i) ⟨#[]⟩)).isSome)),(26,.bool (!((nameNo ((plusSplit s).getD (i) ⟨#[]⟩)).isSome))),(28,.int .i64 (r)),(29,.pointer (some ⟨g9,0,none⟩)),(30,.int .i64 (partR ((plusSplit s).getD (i) ⟨#[]⟩))),(31,.int .i64 (r+(partR ((plusSplit s).getD (i) ⟨#[]⟩)))),(6,.int .i64 (r+(partR ((plusSplit s).getD (i) ⟨#[]⟩)))),(32,bv),(33,.agg #[.int .i64 (partR ((plusSplit s).getD (i) ⟨#[]⟩)),v7]),(34,v11),(35,v13),(5,v13),(36,.int .i64 ((i:Int)+1)),(16,.int .i64 ((i:Int)+1))]) ⟨rfl,rfl,rfl,rfl,rfl,rfl,rfl,rfl,rfl,rfl,rfl,rfl,rfl,rfl,rfl,rfl,rfl,rfl,rfl,rfl,rfl,rfl,rfl,rfl,rfl,rfl,rfl,rfl,trivial⟩ (own':=ints 3 v7 (partD ((plusSplit s).getD (i) ⟨#[]⟩))::many (ints 3) vs (ks.map oneD)::rws 27 2 v13 ((rowC ks vs)++[[.int .i64 (partR ((plusSplit s).getD (i) ⟨#[]⟩)),v7]])::box g9 27 [.int .i64 (partR ((plusSplit s).getD (i) ⟨#[]⟩)),v7]::strs 9 v2 (plusSplit s)::box g1 27 [.int .i64 (0),.slice none 0 0]::own) rfl ?_
 refine GE.manyPush (by simp[hlen]) ?_
 refine GE.ownEq (own':=many (ints 3) (vs++[v7]) ((ks++[k]).map oneD)::rws 27 2 v13 (rowC (ks++[k]) (vs++[v7]))::box g9 27 [.int .i64 (partR ((plusSplit s).getD (i) ⟨#[]⟩)),v7]::strs 9 v2 (plusSplit s)::box g1 27 [.int .i64 (0),.slice none 0 0]::own) (by rw[rowC_snoc hlen hpR,hpD,List.map_append];rfl) ?_
 exact GE.again (i+1,ks++[k],vs++[v7],v13,r+(partR ((plusSplit s).getD (i) ⟨#[]⟩))) (⟨by omega,hc.next (by omega) hk,by simp[hki],by simp[hlen],hall.snoc hs8,hs14,by rw[rkS_snoc,hr,hpR];simp⟩) (by first | omega | (dsimp only;omega)) ⟨rfl,rfl,rfl,rfl,rfl,rfl,trivial⟩ [0,0,1,1] 1 rfl
 replace hc6:=of_decide_eq_false hc6
 have hst:=hc.stop (by omega)
 refine GC.exit (Zp (Zp (GE.hit (Zt (Zs (Zs (Zr ?_)))))))
 refine Zm rfl (Zd (OD.gtr rfl rfl rfl) rfl ?_)
 refine Zn (Zt ?_)
 refine GC.cond rfl (fun hc15=>?_) (fun hc15=>?_)
 replace hc15:=of_decide_eq_true hc15
 obtain⟨hp1,hp2,hp3⟩:=cF_none (hst.trans (if_pos (by omega)))
 refine Zs (Zr (Zd (OD.build (idx:=[]) (xs:=[]) (vs:=[]) (cs:=[]) (zs:=[.int .i64 (0),.slice none 0 0]) (r:=[.int .i64 (0),.slice none 0 0]) rfl ti27 rfl rfl rfl trivial rfl) rfl ?_))
 refine G.stepD0 (OD.store rfl ti27 rfl rfl (us:=[.int .i64 (0),.slice none 0 0]) rfl rfl rfl (i:=3) rfl rfl) rfl rfl ?_
 refine Za rfl (Zn (Zt (GC.ret (GE.passR ?_))))
 refine GE.nilInts 3 ?_
 exact GE.body [0] 4 (resN rfl (RVs.cons (rv_cells ti27 rfl (i:=4) rfl rfl) (RVs.cons (rv_tmp rfl) RVs.nil)) rfl) rfl (⟨(.slice none 0 0),congr (congrArg (fun(a0:Int) (a2:Bool)=>(.tuple #[.agg #[.int .i64 (a0),(.slice none 0 0)],.bool (a2)]:Value)) ((hp1.symm:(0:Int)=cR s))) ((hp3.symm:(false:Bool)=(cF s).isSome)),IsS.nil,congrArg (fun(l0:List Int)=>ints 3 (.slice none 0 0) l0::own) ((hp2.symm : []=cD s))⟩)
 replace hc15:=of_decide_eq_false hc15
 obtain⟨hp1,hp2,hp3⟩:=cF_some (hst.trans (if_neg (by omega)))
 have h12:=hc.lt
 have hr4:rkS ks≤4:=by omega
 have hjm:=joinD_mat h12 hr4
 have hge:=rkS_ge h12
 refine Zk (Zt (Zs (Zr (Zm rfl (G.step (OG.call [bv] ent186 rfl rfl rfl rfl (by exact(joined_w hbv (Ent.rws (i:=1) rfl) (fun k hk=>by have h:=Ent.manyInts (own:=many (ints 3) vs (ks.map oneD)::rws 27 2 bv (rowC ks vs)::strs 9 v2 (plusSplit s)::box g1 27 [.int .i64 (0),.slice none 0 0]::own) (i:=0) (k:=k) rfl ⟨by omega,by simpa using hk⟩;simpa [List.getD,hk] using h) hlen hall (h12) (hr4) (by omega)))) rfl rfl rfl ?_)))))
 rintro _ _ ⟨v16,rfl,hs17,rfl⟩
 refine G.stepD0 (OD.store rfl ti27 rfl rfl (us:=[.int .i64 ((rkS ks:Nat)),v16]) rfl rfl (allC rfl (allC (IsS.one hs17) rfl)) (i:=4) rfl rfl) rfl rfl ?_
 refine Za rfl (Zn (Zt (GC.ret ?_)))
 exact GE.body [0] 4 (resN rfl (RVs.cons (rv_cells ti27 rfl (i:=4) rfl rfl) (RVs.cons (rv_tmp rfl) RVs.nil)) rfl) rfl (⟨v16,congr (congrArg (fun(a0:Int) (a2:Bool)=>(.tuple #[.agg #[.int .i64 (a0),v16],.bool (a2)]:Value)) ((hp1.symm:((rkS ks:Nat):Int)=cR s))) ((hp3.symm:(true:Bool)=(cF s).isSome)),hs17,congrArg (fun(l0:List Int)=>ints 3 v16 l0::own) ((hjm.trans hp2.symm:joinD ks=cD s))⟩)
theorem szIntS_s {W:World}{own:List Asn}{vx:Value}{x:List Int}{q:Int}(sx:IsS vx)(ex:Ent own fun w=>Ints w vx x)(hq:0≤q∧q≤1048576)(hl:x.length≤9223372036854775807):Spec Tryz.prog 36 [vx,.int .i64 (q)] W own (fun v ow=>v = .int .i64 (szG x.length q)∧ow=own):=by
 refine Spec.enter Tryz.f36 _ Tryz.func36 rfl (n:=12) rfl rfl ?_
 refine Zs (Zr (Za rfl (Zn (Zt (Zs (Zr (Zm rfl (Zm rfl (Zd (OD.len rfl rfl et22 rfl ex) rfl ?_)))))))))
 refine Zd (OD.subI rfl rfl rfl (by omega)) rfl ?_
 refine Za rfl (Zn (Zt (Zs (Zs (Zr (Zm rfl (Zd (OD.lss rfl rfl rfl) rfl ?_)))))))
 refine Zn (Zt ?_)
 refine GC.cond rfl (fun hc1=>?_) (fun hc1=>?_)
 replace hc1:=of_decide_eq_true hc1
 refine Zs (Zr (Za rfl (Zn (Zt (GC.ret (GE.passR ?_))))))
 exact GE.body [] 0 (res1 rfl rfl) rfl (⟨congrArg (fun(a0:Int)=>(.int .i64 (a0):Value)) (((if_pos (by omega)).symm:(-1:Int)=szG x.length q)),rfl⟩)
 replace hc1:=of_decide_eq_false hc1
 refine Zk (Zt (Zs (Zr (Zm rfl (Za rfl (Zn (Zt (GC.ret ?_))))))))
 exact GE.body [] 0 (res1 rfl rfl) rfl (⟨congrArg (fun(a0:Int)=>(.int .i64 (a0):Value)) (((if_neg (by omega)).symm:(q - (x.length:Nat):Int)=szG x.length q)),rfl⟩)
theorem toIntS_s {W:World}{own:List Asn}{vx:Value}{x:List Int}(sx:IsS vx)(ex:Ent own fun w=>Ints w vx x)(hl:x.length≤1073741824):Spec Tryz.prog 11 [vx] W own (fun v ow=>∃ (r0:Value),v=r0∧IsS r0∧ow=ints 3 r0 x::own):=by
 refine Spec.enter Tryz.f11 _ Tryz.func11 rfl (n:=22) rfl rfl ?_
 refine Zs (Zr (Za rfl (Zn (Zt (Zs (Zr (Zm rfl (Zd (OD.len rfl rfl et22 rfl ex) rfl ?_))))))))
 refine G.step (OG.makeInts rfl et22 rfl rfl (by omega)) rfl rfl rfl ?_
 rintro v1 _ ⟨hs2,rfl⟩
 refine Za rfl (Zn (Zt (Zs (Zs (Zr (Za rfl (Zn (Zt (GC.block ?_)))))))))
 refine GC.loop (ι:=Nat × List Int) (fun⟨k,ys⟩=>[(0,vx),(3,v1),(4,.int .i64 ((k:Int)))]) (fun⟨k,ys⟩=>ints 3 v1 ys::own) (fun⟨k,ys⟩=>(k≤x.length)∧(ys.length=x.length)∧(ys=x.take k++List.replicate (x.length - k) 0)) (fun⟨k,ys⟩=>x.length - k) (0,List.replicate x.length 0) (⟨by omega,by simp,by simp⟩) ⟨rfl,rfl,rfl,trivial⟩ [] 0 rfl ?_
 rintro⟨k,ys⟩ ⟨hk,hy,ht⟩
 refine Zs (Zs (Zr (Zm rfl (Zm rfl (Zd (OD.len rfl rfl et22 rfl (Ent.drop 1 ex)) rfl ?_)))))
 refine Zd (OD.lss rfl rfl rfl) rfl ?_
 refine Zn (Zt ?_)
 refine GC.cond rfl (fun hc3=>?_) (fun hc3=>?_)
 replace hc3:=of_decide_eq_true hc3
 refine Zk (Zt (Zs (GC.block (Zr ?_))))
 refine Zm rfl (Zm rfl (Zm rfl (Zm rfl (Zd (OD.indexAddr rfl et22 rfl (Ent.drop 1 ex) rfl (by omega)) rfl ?_))))
 refine Zd (OD.loadInt rfl ti3 rfl (Ent.drop 1 ex) (by omega)) rfl ?_
 refine Zd (OD.indexAddr rfl et22 rfl (Ent.ints (i:=0) rfl) rfl (by omega)) rfl ?_
 refine G.stepD0 (OD.storeInt rfl ti3 rfl rfl (i:=0) rfl (by omega)) rfl rfl ?_
 refine Zn (GE.blockN (Zt (Zr ?_)))
 refine Zm rfl (Zd (OD.addI rfl rfl rfl (by first | omega | (simp only[List.length_set,List.length_replicate];omega))) rfl ?_)
 exact Za rfl (Zn (GE.again (k+1,ys.set k (x.getD k 0)) (⟨by omega,by simp[hy],by subst ht;exact set_step_zero (by omega)⟩) (by first | omega | (dsimp only;omega)) ⟨rfl,rfl,rfl,trivial⟩ [] 0 rfl))
 replace hc3:=of_decide_eq_false hc3
 refine GC.exit (Zp (Zp (GE.hit (Zt (Zs (Zr ?_))))))
 refine Zm rfl (Za rfl (Zn (Zt (GC.ret ?_))))
 exact GE.body [] 0 (res1 rfl rfl) rfl (⟨v1,rfl,hs2,congrArg (fun(l0:List Int)=>ints 3 v1 l0::own) ((by rw[ht,List.take_of_length_le (by omega)];simp;omega:ys=x))⟩)
theorem eqIntS_same {W:World}{own:List Asn}{vx:Value}{x:List Int}{vy:Value}(sx:IsS vx)(ex:Ent own fun w=>Ints w vx x)(sy:IsS vy)(ey:Ent own fun w=>Ints w vy x)(hl:x.length≤9223372036854775807):Spec Tryz.prog 14 [vx,vy] W own (fun v ow=>v = .bool (true)∧ow=own):=by
 refine Spec.enter Tryz.f14 _ Tryz.func14 rfl (n:=26) rfl rfl ?_
 refine Zs (Zr (Za rfl (Zn (Zt (Zs (Zs (Zr (Zm rfl (Zd (OD.len rfl rfl et22 rfl ex) rfl ?_)))))))))
 refine Zm rfl (Zd (OD.len rfl rfl et22 rfl ey) rfl ?_)
 refine Zd (OD.eqv (OD.neq rfl rfl rfl) (congrArg Value.bool ((bne_same _):_=false))) rfl ?_
 refine Zn (Zt (GC.condF rfl (Zk (Zt (Zs (Zs (Zr ?_)))))))
 refine Za rfl (Zn (Zt (GC.block ?_)))
 refine GC.loop (ι:=Nat) (fun k=>[(0,vx),(1,vy),(5,.int .i64 ((k:Int)))]) (fun k=>own) (fun k=>(k≤x.length)) (fun k=>x.length - k) 0 (by omega) ⟨rfl,rfl,rfl,trivial⟩ [] 0 rfl ?_
 rintro k hk
 refine Zs (Zs (Zr (Zm rfl (Zm rfl (Zd (OD.len rfl rfl et22 rfl ex) rfl ?_)))))
 refine Zd (OD.lss rfl rfl rfl) rfl ?_
 refine Zn (Zt ?_)
 refine GC.cond rfl (fun hc1=>?_) (fun hc1=>?_)
 replace hc1:=of_decide_eq_true hc1
 refine Zk (Zt (Zs (GC.block (Zs ?_))))
 refine GC.at [] 0 (env':=[(0,vx),(1,vy),(5,.int .i64 ((k:Int)))]) ⟨rfl,rfl,rfl,trivial⟩ rfl ?_
 refine GC.par (its:=[Z0 17 vx,
     Z0 18 (.int .i64 ((k:Int))),
     Z1 19 [(0,17),(1,18)] (elemPtr vx 1 (k)),
     Z1 20 [(2,19)] (.int .i64 (x.getD (k) 0)),
     Z0 21 vy,
     Z0 22 (.int .i64 ((k:Int))),
     Z1 23 [(4,21),(5,22)] (elemPtr vy 1 (k)),
     Z1 24 [(6,23)] (.int .i64 (x.getD (k) 0)),
     Z1 25 [(3,20),(7,24)] (.bool false)]) (by kernel_rfl) (by kernel_rfl) (Zc ?_ (Zc ?_ (Zc ?_ (Zc ?_ (Zc ?_ (Zc ?_ (Zc ?_ (Zc ?_ (Zc ?_ POps.nil))))))))) ?_
 exact fun θ R hd=>Zq (OD.move rfl rfl) rfl
 exact fun θ R hd=>Zq (OD.move rfl rfl) rfl
 exact fun θ R ⟨h0d,h1d,_⟩=>Zq (OD.indexAddr rfl et22 rfl (ex.app) rfl (by omega)) rfl
 exact fun θ R ⟨h2d,_⟩=>Zq (OD.loadInt rfl ti3 rfl (ex.app) (by omega)) rfl
 exact fun θ R hd=>Zq (OD.move rfl rfl) rfl
 exact fun θ R hd=>Zq (OD.move rfl rfl) rfl
 exact fun θ R ⟨h4d,h5d,_⟩=>Zq (OD.indexAddr rfl et22 rfl (ey.app) rfl (by omega)) rfl
 exact fun θ R ⟨h6d,_⟩=>Zq (OD.loadInt rfl ti3 rfl (ey.app) (by omega)) rfl
 exact fun θ R ⟨h3d,h7d,_⟩=>Zq (OD.eqv (OD.neq rfl rfl rfl) (congrArg Value.bool ((bne_same _):_=false))) rfl
 intro θ hall
 obtain⟨_,_,_,_,_,_,_,_,_,_⟩:=hall
 refine G.at [] 0 (env':=[(0,vx),(1,vy),(5,.int .i64 ((k:Int))),(25,.bool false)]) ⟨rfl,rfl,rfl,rfl,trivial⟩ (own':=own) rfl ?_
 show G _ _ _ [] _ _ _ _
 refine Zn (Zt (GC.condF rfl (Zk (GE.blockN (Zt (Zr ?_))))))
 refine Zm rfl (Zd (OD.addI rfl rfl rfl (by omega)) rfl ?_)
 exact Za rfl (Zn (GE.again (k+1) (by omega) (by first | omega | (dsimp only;omega)) ⟨rfl,rfl,rfl,trivial⟩ [] 0 rfl))
 replace hc1:=of_decide_eq_false hc1
 refine GC.exit (Zp (Zp (GE.hit (Zt (Zs (Zr ?_))))))
 refine Za rfl (Zn (Zt (GC.ret ?_)))
 exact GE.body [] 0 (res1 rfl rfl) rfl (⟨rfl,rfl⟩)
theorem l1Same_s {W:World}{own:List Asn}{vx:Value}{x:List Int}{vy:Value}{y:List Int}(sx:IsS vx)(ex:Ent own fun w=>Ints w vx x)(sy:IsS vy)(ey:Ent own fun w=>Ints w vy y)(hl:x.length≤9223372036854775807):Spec Tryz.prog 126 [vx,vy] W own (fun v ow=>v = .bool (samB x y)∧ow=own):=by
 refine Spec.enter Tryz.f126 _ Tryz.func126 rfl (n:=26) rfl rfl ?_
 refine Zs (Zr (Za rfl (Zn (Zt (Zs (Zs (Zr (Zm rfl (Zd (OD.len rfl rfl et22 rfl ex) rfl ?_)))))))))
 refine Zm rfl (Zd (OD.len rfl rfl et22 rfl ey) rfl ?_)
 refine Zd (OD.neq rfl rfl rfl) rfl ?_
 refine Zn (Zt ?_)
 refine GC.cond rfl (fun hc1=>?_) (fun hc1=>?_)
 replace hc1:=ne_of_bne hc1
 refine Zs (Zr (Za rfl (Zn (Zt (GC.ret (GE.passR ?_))))))
 exact GE.body [] 0 (res1 rfl rfl) rfl (⟨congrArg (fun(a0:Bool)=>(.bool (a0):Value)) (((samB_not fun h=>(by assumption:(x.length:Int)≠y.length) (by rw[h])).symm:(false:Bool)=samB x y)),rfl⟩)
 replace hc1:=eq_of_bne_false hc1
 refine Zk (Zt (Zs (Zs (Zr (Za rfl (Zn (Zt (GC.block ?_))))))))
 refine GC.loop (ι:=Nat) (fun k=>[(0,vx),(1,vy),(5,.int .i64 ((k:Int)))]) (fun k=>own) (fun k=>(k≤x.length)∧(x.take k=y.take k)) (fun k=>x.length - k) 0 (⟨by omega,rfl⟩) ⟨rfl,rfl,rfl,trivial⟩ [] 0 rfl ?_
 rintro k ⟨hk,ht⟩
 refine Zs (Zs (Zr (Zm rfl (Zm rfl (Zd (OD.len rfl rfl et22 rfl ex) rfl ?_)))))
 refine Zd (OD.lss rfl rfl rfl) rfl ?_
 refine Zn (Zt ?_)
 refine GC.cond rfl (fun hc2=>?_) (fun hc2=>?_)
 replace hc2:=of_decide_eq_true hc2
 refine Zk (Zt (Zs (GC.block (Zs ?_))))
 refine GC.at [] 0 (env':=[(0,vx),(1,vy),(5,.int .i64 ((k:Int)))]) ⟨rfl,rfl,rfl,trivial⟩ rfl ?_
 refine GC.par (its:=[Z0 17 vx,
     Z0 18 (.int .i64 ((k:Int))),
     Z1 19 [(0,17),(1,18)] (elemPtr vx 1 (k)),
     Z1 20 [(2,19)] (.int .i64 (x.getD (k) 0)),
     Z0 21 vy,
     Z0 22 (.int .i64 ((k:Int))),
     Z1 23 [(4,21),(5,22)] (elemPtr vy 1 (k)),
     Z1 24 [(6,23)] (.int .i64 (y.getD (k) 0)),
     Z1 25 [(3,20),(7,24)] (.bool ((x.getD (k) 0) != (y.getD (k) 0)))]) (by kernel_rfl) (by kernel_rfl) (Zc ?_ (Zc ?_ (Zc ?_ (Zc ?_ (Zc ?_ (Zc ?_ (Zc ?_ (Zc ?_ (Zc ?_ POps.nil))))))))) ?_
 exact fun θ R hd=>Zq (OD.move rfl rfl) rfl
 exact fun θ R hd=>Zq (OD.move rfl rfl) rfl
 exact fun θ R ⟨h0d,h1d,_⟩=>Zq (OD.indexAddr rfl et22 rfl (ex.app) rfl (by omega)) rfl
 exact fun θ R ⟨h2d,_⟩=>Zq (OD.loadInt rfl ti3 rfl (ex.app) (by omega)) rfl
 exact fun θ R hd=>Zq (OD.move rfl rfl) rfl
 exact fun θ R hd=>Zq (OD.move rfl rfl) rfl
 exact fun θ R ⟨h4d,h5d,_⟩=>Zq (OD.indexAddr rfl et22 rfl (ey.app) rfl (by omega)) rfl
 exact fun θ R ⟨h6d,_⟩=>Zq (OD.loadInt rfl ti3 rfl (ey.app) (by omega)) rfl
 exact fun θ R ⟨h3d,h7d,_⟩=>Zq (OD.neq rfl rfl rfl) rfl
 intro θ hall
 obtain⟨_,_,_,_,_,_,_,_,_,_⟩:=hall
 refine G.at [] 0 (env':=[(0,vx),(1,vy),(5,.int .i64 ((k:Int))),(25,.bool ((x.getD (k) 0) != (y.getD (k) 0)))]) ⟨rfl,rfl,rfl,rfl,trivial⟩ (own':=own) rfl ?_
 show G _ _ _ [] _ _ _ _
 refine Zn (Zt ?_)
 refine GC.cond rfl (fun hc3=>?_) (fun hc3=>?_)
 replace hc3:=ne_of_bne hc3
 refine Zs (Zr (Za rfl (Zn (Zt (GC.ret (GE.blockR (GE.passR (GE.passR (GE.blockR (GE.passR ?_))))))))))
 exact GE.body [] 0 (res1 rfl rfl) rfl (⟨congrArg (fun(a0:Bool)=>(.bool (a0):Value)) (((samB_not (ne_getD (by assumption))).symm:(false:Bool)=samB x y)),rfl⟩)
 replace hc3:=eq_of_bne_false hc3
 refine Zk (GE.blockN (Zt (Zr ?_)))
 refine Zm rfl (Zd (OD.addI rfl rfl rfl (by omega)) rfl ?_)
 exact Za rfl (Zn (GE.again (k+1) (⟨by omega,take_eqD ht (by omega) (by omega) (by assumption)⟩) (by first | omega | (dsimp only;omega)) ⟨rfl,rfl,rfl,trivial⟩ [] 0 rfl))
 replace hc2:=of_decide_eq_false hc2
 refine GC.exit (Zp (Zp (GE.hit (Zt (Zs (Zr ?_))))))
 refine Za rfl (Zn (Zt (GC.ret ?_)))
 exact GE.body [] 0 (res1 rfl rfl) rfl (⟨congrArg (fun(a0:Bool)=>(.bool (a0):Value)) (((samB_of (eq_takeD ht (by omega) (by omega))).symm:(true:Bool)=samB x y)),rfl⟩)
theorem slicesEqual_s {W:World}{own:List Asn}{vx:Value}{x:List Int}{vy:Value}{y:List Int}(sx:IsS vx)(ex:Ent own fun w=>Ints w vx x)(sy:IsS vy)(ey:Ent own fun w=>Ints w vy y)(hl:x.length≤9223372036854775807):Spec Tryz.prog 53 [vx,vy] W own (fun v ow=>v = .bool (samB x y)∧ow=own):=by
 refine Spec.enter Tryz.f53 _ Tryz.func53 rfl (n:=26) rfl rfl ?_
 refine Zs (Zr (Za rfl (Zn (Zt (Zs (Zs (Zr (Zm rfl (Zd (OD.len rfl rfl et22 rfl ex) rfl ?_)))))))))
 refine Zm rfl (Zd (OD.len rfl rfl et22 rfl ey) rfl ?_)
 refine Zd (OD.neq rfl rfl rfl) rfl ?_
 refine Zn (Zt ?_)
 refine GC.cond rfl (fun hc1=>?_) (fun hc1=>?_)
 replace hc1:=ne_of_bne hc1
 refine Zs (Zr (Za rfl (Zn (Zt (GC.ret (GE.passR ?_))))))
 exact GE.body [] 0 (res1 rfl rfl) rfl (⟨congrArg (fun(a0:Bool)=>(.bool (a0):Value)) (((samB_not fun h=>(by assumption:(x.length:Int)≠y.length) (by rw[h])).symm:(false:Bool)=samB x y)),rfl⟩)
 replace hc1:=eq_of_bne_false hc1
 refine Zk (Zt (Zs (Zs (Zr (Zm rfl (Zd (OD.len rfl rfl et22 rfl ex) rfl ?_))))))
 refine Zm rfl (Zn (Zt (GC.block ?_)))
 refine GC.loop (ι:=Nat) (fun k=>[(0,vx),(1,vy),(12,.int .i64 ((x.length:Nat))),(13,.int .i64 ((k:Int)))]) (fun k=>own) (fun k=>(k≤x.length)∧(x.take k=y.take k)) (fun k=>x.length - k) 0 (⟨by omega,rfl⟩) ⟨rfl,rfl,rfl,rfl,trivial⟩ [] 0 rfl ?_
 rintro k ⟨hk,ht⟩
 refine Zs (Zr (Zd (OD.lss rfl rfl rfl) rfl ?_))
 refine Zn (Zt (Zs ?_))
 refine GC.cond rfl (fun hc2=>?_) (fun hc2=>?_)
 replace hc2:=of_decide_eq_true hc2
 refine Zk (Zt (Zs (GC.block (Zs (Zr ?_)))))
 refine Zm rfl (Za rfl (Zn (Zt (Zs (GC.at [] 0 (env':=[(0,vx),(1,vy),(12,.int .i64 ((x.length:Nat))),(13,.int .i64 ((k:Int))),(5,.int .i64 ((k:Int)))]) ⟨rfl,rfl,rfl,rfl,rfl,trivial⟩ rfl ?_)))))
 refine GC.par (its:=[Z0 16 vx,
     Z0 17 (.int .i64 ((k:Int))),
     Z1 18 [(0,16),(1,17)] (elemPtr vx 1 (k)),
     Z1 19 [(2,18)] (.int .i64 (x.getD (k) 0)),
     Z0 20 vy,
     Z0 21 (.int .i64 ((k:Int))),
     Z1 22 [(4,20),(5,21)] (elemPtr vy 1 (k)),
     Z1 23 [(6,22)] (.int .i64 (y.getD (k) 0)),
     Z1 24 [(3,19),(7,23)] (.bool ((x.getD (k) 0) != (y.getD (k) 0)))]) (by kernel_rfl) (by kernel_rfl) (Zc ?_ (Zc ?_ (Zc ?_ (Zc ?_ (Zc ?_ (Zc ?_ (Zc ?_ (Zc ?_ (Zc ?_ POps.nil))))))))) ?_
 exact fun θ R hd=>Zq (OD.move rfl rfl) rfl
 exact fun θ R hd=>Zq (OD.move rfl rfl) rfl
 exact fun θ R ⟨h0d,h1d,_⟩=>Zq (OD.indexAddr rfl et22 rfl (ex.app) rfl (by omega)) rfl
 exact fun θ R ⟨h2d,_⟩=>Zq (OD.loadInt rfl ti3 rfl (ex.app) (by omega)) rfl
 exact fun θ R hd=>Zq (OD.move rfl rfl) rfl
 exact fun θ R hd=>Zq (OD.move rfl rfl) rfl
 exact fun θ R ⟨h4d,h5d,_⟩=>Zq (OD.indexAddr rfl et22 rfl (ey.app) rfl (by omega)) rfl
 exact fun θ R ⟨h6d,_⟩=>Zq (OD.loadInt rfl ti3 rfl (ey.app) (by omega)) rfl
 exact fun θ R ⟨h3d,h7d,_⟩=>Zq (OD.neq rfl rfl rfl) rfl
 intro θ hall
 obtain⟨_,_,_,_,_,_,_,_,_,_⟩:=hall
 refine G.at [] 0 (env':=[(0,vx),(1,vy),(12,.int .i64 ((x.length:Nat))),(13,.int .i64 ((k:Int))),(24,.bool ((x.getD (k) 0) != (y.getD (k) 0)))]) ⟨rfl,rfl,rfl,rfl,rfl,trivial⟩ (own':=own) rfl ?_
 show G _ _ _ [] _ _ _ _
 refine Zn (Zt ?_)
 refine GC.cond rfl (fun hc3=>?_) (fun hc3=>?_)
 replace hc3:=ne_of_bne hc3
 refine Zs (Zr (Za rfl (Zn (Zt (GC.ret (GE.blockR (GE.passR (GE.passR (GE.blockR (GE.passR ?_))))))))))
 exact GE.body [] 0 (res1 rfl rfl) rfl (⟨congrArg (fun(a0:Bool)=>(.bool (a0):Value)) (((samB_not (ne_getD (by assumption))).symm:(false:Bool)=samB x y)),rfl⟩)
 replace hc3:=eq_of_bne_false hc3
 refine Zk (GE.blockN (Zt (Zr ?_)))
 refine Zd (OD.addI rfl rfl rfl (by omega)) rfl ?_
 exact Zm rfl (Zn (GE.again (k+1) (⟨by omega,take_eqD ht (by omega) (by omega) (by assumption)⟩) (by first | omega | (dsimp only;omega)) ⟨rfl,rfl,rfl,rfl,trivial⟩ [] 0 rfl))
 replace hc2:=of_decide_eq_false hc2
 refine GC.exit (Zp (Zp (GE.hit (Zt (Zs (Zr ?_))))))
 refine Za rfl (Zn (Zt (GC.ret ?_)))
 exact GE.body [] 0 (res1 rfl rfl) rfl (⟨congrArg (fun(a0:Bool)=>(.bool (a0):Value)) (((samB_of (eq_takeD ht (by omega) (by omega))).symm:(true:Bool)=samB x y)),rfl⟩)
theorem markIntS_s {W:World}{own:List Asn}{vx:Value}{x:List Int}{q:Int}(sx:IsS vx)(hq:0≤q∧q≤1099511627776)(hl:x.length≤1073741824):Spec Tryz.prog 71 [vx,.int .i64 (q)] W (ints 3 vx x::own) (fun v ow=>v = .int .i64 (q+(x.length:Nat))∧ow=ints 3 vx (mkd q x.length)::own):=by
 refine Spec.enter Tryz.f71 _ Tryz.func71 rfl (n:=19) rfl rfl ?_
 refine Zs (Zr (Za rfl (Zn (Zt (Zs (Zs (Zr (Za rfl (Zn (Zt (GC.block ?_)))))))))))
 refine GC.loop (ι:=Nat × List Int) (fun⟨k,ys⟩=>[(0,vx),(1,.int .i64 (q+(k:Int))),(5,.int .i64 ((k:Int)))]) (fun⟨k,ys⟩=>ints 3 vx ys::own) (fun⟨k,ys⟩=>(k≤x.length)∧(ys.length=x.length)∧(ys=mkd q k++x.drop k)) (fun⟨k,ys⟩=>x.length - k) (0,x) (⟨by omega,rfl,by simp[mkd]⟩) ⟨rfl,int_eq (by omega),rfl,trivial⟩ [] 0 rfl ?_
 rintro⟨k,ys⟩ ⟨hk,hy,ht⟩
 refine Zs (Zs (Zr (Zm rfl (Zm rfl (Zd (OD.len rfl rfl et22 rfl (Ent.ints (i:=0) rfl)) rfl ?_)))))
 refine Zd (OD.lss rfl rfl rfl) rfl ?_
 refine Zn (Zt ?_)
 refine GC.cond rfl (fun hc1=>?_) (fun hc1=>?_)
 replace hc1:=of_decide_eq_true hc1
 refine Zk (Zt (Zs (GC.block (Zs (Zr ?_)))))
 refine Zm rfl (Zm rfl (Zm rfl (Zd (OD.indexAddr rfl et22 rfl (Ent.ints (i:=0) rfl) rfl (by omega)) rfl ?_)))
 refine G.stepD0 (OD.storeInt rfl ti3 rfl rfl (i:=0) rfl (by omega)) rfl rfl ?_
 refine Zn (Zt (Zr (Zm rfl (Zd (OD.addI rfl rfl rfl (by first | omega | (simp only[List.length_set,List.length_replicate];omega))) rfl ?_))))
 refine Za rfl (Zn (GE.blockN (Zt (Zr ?_))))
 refine Zm rfl (Zd (OD.addI rfl rfl rfl (by first | omega | (simp only[List.length_set,List.length_replicate];omega))) rfl ?_)
 exact Za rfl (Zn (GE.again (k+1,ys.set k (q+(k:Int))) (⟨by omega,by simp[hy],by subst ht;exact set_mkd (by omega)⟩) (by first | omega | (dsimp only;omega)) ⟨rfl,int_eq (by omega),rfl,trivial⟩ [] 0 rfl))
 replace hc1:=of_decide_eq_false hc1
 refine GC.exit (Zp (Zp (GE.hit (Zt (Zs (Zr ?_))))))
 refine Zm rfl (Za rfl (Zn (Zt (GC.ret ?_))))
 exact GE.body [] 0 (res1 rfl rfl) rfl (⟨congrArg (fun(a0:Int)=>(.int .i64 (a0):Value)) ((by omega:(q+(k:Int):Int)=q+(x.length:Nat))),congrArg (fun(l0:List Int)=>ints 3 vx l0::own) ((by rw[ht,show k=x.length by omega];simp:ys=mkd q x.length))⟩)
theorem heldIntS_m {W:World}{own:List Asn}{vx:Value}{n:Nat}{q:Int}(sx:IsS vx)(ex:Ent own fun w=>Ints w vx (mkd q n))(hq:0≤q∧q≤1099511627776)(hl:n≤1073741824):Spec Tryz.prog 72 [vx,.int .i64 (q)] W own (fun v ow=>v = .int .i64 (q+(n:Nat))∧ow=own):=by
 have hml:=mkd_len q n
 refine Spec.enter Tryz.f72 _ Tryz.func72 rfl (n:=21) rfl rfl ?_
 refine Zs (Zr (Za rfl (Zn (Zt (Zs (Zs (Zr (Za rfl (Zn (Zt (GC.block ?_)))))))))))
 refine GC.loop (ι:=Nat) (fun k=>[(0,vx),(1,.int .i64 (q+(k:Int))),(5,.int .i64 ((k:Int)))]) (fun k=>own) (fun k=>(k≤n)) (fun k=>n - k) 0 (by omega) ⟨rfl,int_eq (by omega),rfl,trivial⟩ [] 0 rfl ?_
 rintro k hk
 refine Zs (Zs (Zr (Zm rfl (Zm rfl (Zd (OD.len rfl rfl et22 rfl ex) rfl ?_)))))
 refine Zd (OD.lss rfl rfl rfl) rfl ?_
 refine Zn (Zt ?_)
 refine GC.cond rfl (fun hc1=>?_) (fun hc1=>?_)
 replace hc1:=of_decide_eq_true hc1
 refine Zk (Zt (Zs (GC.block (Zs (Zs (Zr ?_))))))
 refine Zm rfl (Zm rfl (Zd (OD.indexAddr rfl et22 rfl ex rfl (by omega)) rfl ?_))
 refine Zd (OD.loadInt rfl ti3 rfl ex (by omega)) rfl ?_
 refine Zm rfl (Zd (OD.eqv (OD.neq rfl rfl rfl) (congrArg Value.bool ((bneF (mkd_get q k n (by omega))):_=false))) rfl ?_)
 refine Zn (Zt (GC.condF rfl (Zk (Zt (Zr ?_)))))
 refine Zm rfl (Zd (OD.addI rfl rfl rfl (by omega)) rfl ?_)
 refine Za rfl (Zn (GE.blockN (Zt (Zr ?_))))
 refine Zm rfl (Zd (OD.addI rfl rfl rfl (by omega)) rfl ?_)
 exact Za rfl (Zn (GE.again (k+1) (by omega) (by first | omega | (dsimp only;omega)) ⟨rfl,int_eq (by omega),rfl,trivial⟩ [] 0 rfl))
 replace hc1:=of_decide_eq_false hc1
 refine GC.exit (Zp (Zp (GE.hit (Zt (Zs (Zr ?_))))))
 refine Zm rfl (Za rfl (Zn (Zt (GC.ret ?_))))
 exact GE.body [] 0 (res1 rfl rfl) rfl (⟨congrArg (fun(a0:Int)=>(.int .i64 (a0):Value)) ((by omega:(q+(k:Int):Int)=q+(n:Nat))),rfl⟩)
theorem eqMatrix_same {W:World}{own:List Asn}{ap:Int}{ar:Int}{ac:Int}{vad:Value}{ad:List Int}{vbd:Value}(sad:IsS vad)(ead:Ent own fun w=>Ints w vad ad)(sbd:IsS vbd)(ebd:Ent own fun w=>Ints w vbd ad)(hl:ad.length≤9223372036854775807):Spec Tryz.prog 31 [.agg #[.int .i64 (ap),.int .i64 (ar),.int .i64 (ac),vad],.agg #[.int .i64 (ap),.int .i64 (ar),.int .i64 (ac),vbd]] W own (fun v ow=>v = .bool (true)∧ow=own):=by
 refine Spec.enter Tryz.f31 _ Tryz.func31 rfl (n:=26) rfl rfl ?_
 refine Zs (Zr (G.step (OG.box (cs:=[.int .i64 (ap),.int .i64 (ar),.int .i64 (ac),vad]) rfl rfl rfl) rfl rfl rfl ?_))
 rintro _ _ ⟨g1,rfl,rfl⟩
 refine G.step (OG.box (cs:=[.int .i64 (ap),.int .i64 (ar),.int .i64 (ac),vbd]) rfl rfl rfl) rfl rfl rfl ?_
 rintro _ _ ⟨g2,rfl,rfl⟩
 refine Za rfl (Zn (Zt (Zs (Zs (Zr (Zd (OD.fieldAddr rfl rfl fa51_0) rfl ?_))))))
 refine Zd (OD.load rfl ti3 rfl (i:=1) rfl rfl) rfl ?_
 refine Zd (OD.fieldAddr rfl rfl fa51_0) rfl ?_
 refine Zd (OD.load rfl ti3 rfl (i:=0) rfl rfl) rfl ?_
 refine Zd (OD.eqv (OD.neq rfl rfl rfl) (congrArg Value.bool ((bne_same _):_=false))) rfl ?_
 refine Zn (Zt (GC.condF rfl (Zk (Zt (Zs (Zs (Zr ?_)))))))
 refine Zd (OD.fieldAddr rfl rfl fa51_1) rfl ?_
 refine Zd (OD.load rfl ti3 rfl (i:=1) rfl rfl) rfl ?_
 refine Zd (OD.fieldAddr rfl rfl fa51_1) rfl ?_
 refine Zd (OD.load rfl ti3 rfl (i:=0) rfl rfl) rfl ?_
 refine Zd (OD.eqv (OD.neq rfl rfl rfl) (congrArg Value.bool ((bne_same _):_=false))) rfl ?_
 refine Zn (Zt (GC.condF rfl (Zk (Zt (Zs (Zs (Zr ?_)))))))
 refine Zd (OD.fieldAddr rfl rfl fa51_2) rfl ?_
 refine Zd (OD.load rfl ti3 rfl (i:=1) rfl rfl) rfl ?_
 refine Zd (OD.fieldAddr rfl rfl fa51_2) rfl ?_
 refine Zd (OD.load rfl ti3 rfl (i:=0) rfl rfl) rfl ?_
 refine Zd (OD.eqv (OD.neq rfl rfl rfl) (congrArg Value.bool ((bne_same _):_=false))) rfl ?_
 refine Zn (Zt (GC.condF rfl (Zk (Zt (Zs (Zs (Zr ?_)))))))
 refine Zd (OD.fieldAddr rfl rfl fa51_3) rfl ?_
 refine Zd (OD.load rfl ti22 rfl (i:=1) rfl rfl) rfl ?_
 refine Zd (OD.fieldAddr rfl rfl fa51_3) rfl ?_
 refine Zd (OD.load rfl ti22 rfl (i:=0) rfl rfl) rfl ?_
 refine G.step (OG.call [vad,vbd] ent14 rfl rfl rfl rfl (by exact(eqIntS_same sad (Ent.drop 2 ead) sbd (Ent.drop 2 ebd) (by omega)))) rfl rfl rfl ?_
 rintro _ _ ⟨rfl,rfl⟩
 refine Zd (OD.not rfl rfl) rfl ?_
 refine Zn (Zt (GC.condF rfl (Zk (Zt (Zs (Zr ?_))))))
 refine Za rfl (Zn (Zt (GC.ret ?_)))
 exact GE.body [] 2 (res1 rfl rfl) rfl (⟨rfl,rfl⟩)
theorem markMatrix_s {W:World}{own:List Asn}{ap:Int}{ar:Int}{ac:Int}{vad:Value}{ad:List Int}{q:Int}(sad:IsS vad)(hq:0≤q∧q≤1099511627776)(hl:ad.length≤1073741824):Spec Tryz.prog 32 [.agg #[.int .i64 (ap),.int .i64 (ar),.int .i64 (ac),vad],.int .i64 (q)] W (ints 3 vad ad::own) (fun v ow=>v = .int .i64 (q+(ad.length:Nat))∧ow=ints 3 vad (mkd q ad.length)::own):=by
 refine Spec.enter Tryz.f32 _ Tryz.func32 rfl (n:=10) rfl rfl ?_
 refine Zs (Zr (G.step (OG.box (cs:=[.int .i64 (ap),.int .i64 (ar),.int .i64 (ac),vad]) rfl rfl rfl) rfl rfl rfl ?_))
 rintro _ _ ⟨g1,rfl,rfl⟩
 refine Za rfl (Zn (Zt (Zs (Zr (Zd (OD.fieldAddr rfl rfl fa51_3) rfl ?_)))))
 refine Zd (OD.load rfl ti22 rfl (i:=0) rfl rfl) rfl ?_
 refine Zm rfl (G.at [1] 0 (env':=[(0,.agg #[.int .i64 (ap),.int .i64 (ar),.int .i64 (ac),vad]),(1,.int .i64 (q)),(2,.pointer (some ⟨g1,0,none⟩)),(4,.int .i64 (0)),(5,.pointer (some ⟨g1,3,none⟩)),(6,vad),(7,.int .i64 (q))]) ⟨rfl,rfl,rfl,rfl,rfl,rfl,rfl,trivial⟩ (own':=ints 3 vad ad::box g1 51 [.int .i64 (ap),.int .i64 (ar),.int .i64 (ac),vad]::own) rfl ?_)
 refine G.step (OG.call [vad,.int .i64 (q)] ent71 rfl rfl rfl rfl (by exact(markIntS_s sad (by omega) (by omega)))) rfl rfl rfl ?_
 rintro _ _ ⟨rfl,rfl⟩
 refine Za rfl (Zn (Zt (Zs (Zr (Zm rfl (Za rfl (Zn (Zt (GC.ret ?_)))))))))
 exact GE.body [0] 1 (res1 rfl rfl) rfl (⟨rfl,rfl⟩)
theorem heldMatrix_m {W:World}{own:List Asn}{ap:Int}{ar:Int}{ac:Int}{vad:Value}{n:Nat}{q:Int}(sad:IsS vad)(ead:Ent own fun w=>Ints w vad (mkd q n))(hq:0≤q∧q≤1099511627776)(hl:n≤1073741824):Spec Tryz.prog 33 [.agg #[.int .i64 (ap),.int .i64 (ar),.int .i64 (ac),vad],.int .i64 (q)] W own (fun v ow=>v = .int .i64 (q+(n:Nat))∧ow=own):=by
 refine Spec.enter Tryz.f33 _ Tryz.func33 rfl (n:=12) rfl rfl ?_
 refine Zs (Zr (G.step (OG.box (cs:=[.int .i64 (ap),.int .i64 (ar),.int .i64 (ac),vad]) rfl rfl rfl) rfl rfl rfl ?_))
 rintro _ _ ⟨g1,rfl,rfl⟩
 refine Za rfl (Zn (Zt (Zs (Zr (Zd (OD.fieldAddr rfl rfl fa51_3) rfl ?_)))))
 refine Zd (OD.load rfl ti22 rfl (i:=0) rfl rfl) rfl ?_
 refine Zm rfl (G.step (OG.call [vad,.int .i64 (q)] ent72 rfl rfl rfl rfl (by exact(heldIntS_m sad (Ent.drop 1 ead) (by omega) (by omega)))) rfl rfl rfl ?_)
 rintro _ _ ⟨rfl,rfl⟩
 refine Za rfl (Zn (Zt (Zs (Zs (Zr (Zm rfl (Zd (OD.eqv (OD.lss rfl rfl rfl) (congrArg Value.bool ((decide_eq_false (by omega)):_=false))) rfl ?_)))))))
 refine Zn (Zt (GC.condF rfl (Zk (Zt (Zs (Zr ?_))))))
 refine Zm rfl (Za rfl (Zn (Zt (GC.ret ?_))))
 exact GE.body [] 1 (res1 rfl rfl) rfl (⟨rfl,rfl⟩)
theorem szCartan_s {W:World}{own:List Asn}{ar:Int}{vad:Value}{ad:List Int}{q:Int}(sad:IsS vad)(ead:Ent own fun w=>Ints w vad ad)(hq:0≤q∧q≤1048576)(hl:ad.length≤9223372036854775807):Spec Tryz.prog 8 [.agg #[.int .i64 (ar),vad],.int .i64 (q)] W own (fun v ow=>v = .int .i64 (szG ad.length q)∧ow=own):=by
 refine Spec.enter Tryz.f8 _ Tryz.func8 rfl (n:=12) rfl rfl ?_
 refine Zs (Zr (G.step (OG.box (cs:=[.int .i64 (ar),vad]) rfl rfl rfl) rfl rfl rfl ?_))
 rintro _ _ ⟨g1,rfl,rfl⟩
 refine Za rfl (Zn (Zt (Zs (Zr (Zd (OD.fieldAddr rfl rfl fa24_1) rfl ?_)))))
 refine Zd (OD.load rfl ti22 rfl (i:=0) rfl rfl) rfl ?_
 refine Zm rfl (G.step (OG.call [vad,.int .i64 (q)] ent36 rfl rfl rfl rfl (by exact(szIntS_s sad (Ent.drop 1 ead) (by omega) (by omega)))) rfl rfl rfl ?_)
 rintro _ _ ⟨rfl,rfl⟩
 refine Za rfl (Zn (Zt (Zs (Zs (Zr (Zm rfl (Zd (OD.lss rfl rfl rfl) rfl ?_)))))))
 refine Zn (Zt ?_)
 refine GC.cond rfl (fun hc2=>?_) (fun hc2=>?_)
 replace hc2:=of_decide_eq_true hc2
 refine Zs (Zr (Za rfl (Zn (Zt (GC.ret (GE.passR ?_))))))
 exact GE.body [] 1 (res1 rfl rfl) rfl (⟨congrArg (fun(a0:Int)=>(.int .i64 (a0):Value)) (((szG_no (by assumption)).symm:(-1:Int)=szG ad.length q)),rfl⟩)
 replace hc2:=of_decide_eq_false hc2
 refine Zk (Zt (Zs (Zr (Zm rfl (Za rfl (Zn (Zt (GC.ret ?_))))))))
 exact GE.body [] 1 (res1 rfl rfl) rfl (⟨rfl,rfl⟩)
theorem toCartan_s {W:World}{own:List Asn}{ar:Int}{vad:Value}{ad:List Int}(sad:IsS vad)(ead:Ent own fun w=>Ints w vad ad)(hl:ad.length≤1073741824):Spec Tryz.prog 10 [.agg #[.int .i64 (ar),vad]] W own (fun v ow=>∃ (r1:Value),v = .agg #[.int .i64 (ar),r1]∧IsS r1∧ow=ints 3 r1 ad::own):=by
 refine Spec.enter Tryz.f10 _ Tryz.func10 rfl (n:=12) rfl rfl ?_
 refine Zs (Zr (G.step (OG.box (cs:=[.int .i64 (ar),vad]) rfl rfl rfl) rfl rfl rfl ?_))
 rintro _ _ ⟨g1,rfl,rfl⟩
 refine G.step (OG.alloc rfl ti27 (zs:=[.int .i64 (0),.slice none 0 0]) rfl) rfl rfl rfl ?_
 rintro _ _ ⟨g2,rfl,rfl⟩
 refine Zn (Zt (Zs (Zr (G.step (OG.alloc rfl ti27 (zs:=[.int .i64 (0),.slice none 0 0]) rfl) rfl rfl rfl ?_))))
 rintro _ _ ⟨g3,rfl,rfl⟩
 refine Zn (Zt (Zs (Zr (Zd (OD.fieldAddr rfl rfl fa24_0) rfl ?_))))
 refine Zd (OD.load rfl ti3 rfl (i:=2) rfl rfl) rfl ?_
 refine Zd (OD.fieldAddr rfl rfl fa27_0) rfl ?_
 refine G.stepD0 (OD.store rfl ti3 rfl rfl (us:=[.int .i64 (ar)]) rfl rfl rfl (i:=0) rfl rfl) rfl rfl ?_
 refine Zn (Zt (Zs (Zr (Zd (OD.fieldAddr rfl rfl fa24_1) rfl ?_))))
 refine Zd (OD.load rfl ti22 rfl (i:=2) rfl rfl) rfl ?_
 refine G.step (OG.call [vad] ent11 rfl rfl rfl rfl (by exact(toIntS_s sad (Ent.drop 3 ead) (by omega)))) rfl rfl rfl ?_
 rintro v4 _ ⟨_,rfl,hs5,rfl⟩
 refine Zd (OD.fieldAddr rfl rfl fa27_1) rfl ?_
 refine G.stepD0 (OD.store rfl ti22 rfl rfl (us:=[v4]) (one_cells (IsS.one hs5)) rfl (allC (IsS.one hs5) rfl) (i:=1) rfl rfl) rfl rfl ?_
 refine Zn (Zt (Zs (Zr (Zd (OD.loadAgg rfl ti27 rfl (i:=1) rfl (us:=[.int .i64 (ar),v4]) rfl rfl) rfl ?_))))
 refine G.stepD0 (OD.store rfl ti27 rfl rfl (us:=[.int .i64 (ar),v4]) rfl rfl (allC rfl (allC (IsS.one hs5) rfl)) (i:=2) rfl rfl) rfl rfl ?_
 refine Zn (Zt (GC.ret ?_))
 exact GE.body [0] 3 (resN rfl (RVs.cons (rv_cells ti27 rfl (i:=2) rfl rfl) RVs.nil) rfl) rfl (⟨v4,rfl,hs5,rfl⟩)
theorem eqCartan_same {W:World}{own:List Asn}{ar:Int}{vad:Value}{ad:List Int}{vbd:Value}(sad:IsS vad)(ead:Ent own fun w=>Ints w vad ad)(sbd:IsS vbd)(ebd:Ent own fun w=>Ints w vbd ad)(hl:ad.length≤9223372036854775807):Spec Tryz.prog 13 [.agg #[.int .i64 (ar),vad],.agg #[.int .i64 (ar),vbd]] W own (fun v ow=>v = .bool (true)∧ow=own):=by
 refine Spec.enter Tryz.f13 _ Tryz.func13 rfl (n:=16) rfl rfl ?_
 refine Zs (Zr (G.step (OG.box (cs:=[.int .i64 (ar),vad]) rfl rfl rfl) rfl rfl rfl ?_))
 rintro _ _ ⟨g1,rfl,rfl⟩
 refine G.step (OG.box (cs:=[.int .i64 (ar),vbd]) rfl rfl rfl) rfl rfl rfl ?_
 rintro _ _ ⟨g2,rfl,rfl⟩
 refine Za rfl (Zn (Zt (Zs (Zs (Zr (Zd (OD.fieldAddr rfl rfl fa27_0) rfl ?_))))))
 refine Zd (OD.load rfl ti3 rfl (i:=1) rfl rfl) rfl ?_
 refine Zd (OD.fieldAddr rfl rfl fa27_0) rfl ?_
 refine Zd (OD.load rfl ti3 rfl (i:=0) rfl rfl) rfl ?_
 refine Zd (OD.eqv (OD.neq rfl rfl rfl) (congrArg Value.bool ((bne_same _):_=false))) rfl ?_
 refine Zn (Zt (GC.condF rfl (Zk (Zt (Zs (Zs (Zr ?_)))))))
 refine Zd (OD.fieldAddr rfl rfl fa27_1) rfl ?_
 refine Zd (OD.load rfl ti22 rfl (i:=1) rfl rfl) rfl ?_
 refine Zd (OD.fieldAddr rfl rfl fa27_1) rfl ?_
 refine Zd (OD.load rfl ti22 rfl (i:=0) rfl rfl) rfl ?_
 refine G.step (OG.call [vad,vbd] ent14 rfl rfl rfl rfl (by exact(eqIntS_same sad (Ent.drop 2 ead) sbd (Ent.drop 2 ebd) (by omega)))) rfl rfl rfl ?_
 rintro _ _ ⟨rfl,rfl⟩
 refine Zd (OD.not rfl rfl) rfl ?_
 refine Zn (Zt (GC.condF rfl (Zk (Zt (Zs (Zr ?_))))))
 refine Za rfl (Zn (Zt (GC.ret ?_)))
 exact GE.body [] 2 (res1 rfl rfl) rfl (⟨rfl,rfl⟩)
theorem markCartan_s {W:World}{own:List Asn}{ar:Int}{vad:Value}{ad:List Int}{q:Int}(sad:IsS vad)(hq:0≤q∧q≤1099511627776)(hl:ad.length≤1073741824):Spec Tryz.prog 26 [.agg #[.int .i64 (ar),vad],.int .i64 (q)] W (ints 3 vad ad::own) (fun v ow=>v = .int .i64 (q+(ad.length:Nat))∧ow=ints 3 vad (mkd q ad.length)::own):=by
 refine Spec.enter Tryz.f26 _ Tryz.func26 rfl (n:=10) rfl rfl ?_
 refine Zs (Zr (G.step (OG.box (cs:=[.int .i64 (ar),vad]) rfl rfl rfl) rfl rfl rfl ?_))
 rintro _ _ ⟨g1,rfl,rfl⟩
 refine Za rfl (Zn (Zt (Zs (Zr (Zd (OD.fieldAddr rfl rfl fa27_1) rfl ?_)))))
 refine Zd (OD.load rfl ti22 rfl (i:=0) rfl rfl) rfl ?_
 refine Zm rfl (G.at [1] 0 (env':=[(0,.agg #[.int .i64 (ar),vad]),(1,.int .i64 (q)),(2,.pointer (some ⟨g1,0,none⟩)),(4,.int .i64 (0)),(5,.pointer (some ⟨g1,1,none⟩)),(6,vad),(7,.int .i64 (q))]) ⟨rfl,rfl,rfl,rfl,rfl,rfl,rfl,trivial⟩ (own':=ints 3 vad ad::box g1 27 [.int .i64 (ar),vad]::own) rfl ?_)
 refine G.step (OG.call [vad,.int .i64 (q)] ent71 rfl rfl rfl rfl (by exact(markIntS_s sad (by omega) (by omega)))) rfl rfl rfl ?_
 rintro _ _ ⟨rfl,rfl⟩
 refine Za rfl (Zn (Zt (Zs (Zr (Zm rfl (Za rfl (Zn (Zt (GC.ret ?_)))))))))
 exact GE.body [0] 1 (res1 rfl rfl) rfl (⟨rfl,rfl⟩)
end Go.Proofs.YtbmnnbglipkidaaGreatDoor
