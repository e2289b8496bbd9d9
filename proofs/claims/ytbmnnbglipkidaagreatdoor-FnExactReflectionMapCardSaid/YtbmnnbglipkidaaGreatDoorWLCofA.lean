/-
  Strings, names and lists: contracts by walks through the code.
-/
import Derived.Test.YtbmnnbglipkidaaGreatDoorFct
namespace Go.Proofs.YtbmnnbglipkidaaGreatDoor
set_option maxRecDepth 100000
set_option maxHeartbeats 4000000
set_option linter.unusedVariables false
set_option linter.unusedSimpArgs false
open Go.RowKit
theorem Gr {W:World}{own:List Asn}{n:Int}{lo:Int}{hi:Int}:Spec Tryz.prog 84 [J (n),J (lo),J (hi)] W own (fun v ow=>v = .bool (BZ n lo hi)∧ow=own):=by
 refine Spec.enter Tryz.f84 _ Tryz.func84 rfl (n:=15) rfl rfl ?_
 refine Zs (Zr (Za rfl (Zn (Zt (Zs (Zr (Zm rfl (Zm rfl (Zd (OD.leq rfl rfl rfl) rfl ?_)))))))))
 refine Zm rfl ?_
 rcases Bool.eq_false_or_eq_true (decide (lo≤n)) with hg1 | hg1
 have hg1e:=hg1
 rw[hg1e]
 replace hg1:=of_decide_eq_true hg1
 refine Yd (OD.move rfl rfl) ?_
 refine Yd (OD.move rfl rfl) ?_
 refine Yd (OD.leq rfl rfl rfl) ?_
 refine Zd (OD.pickT rfl rfl rfl) rfl ?_
 refine Za rfl (Zn (Zt (GC.ret ?_)))
 exact GE.body [] 0 (Ao rfl rfl) rfl (⟨congrArg (fun a0=>(.bool (a0):Value)) ((by unfold BZ;simp;omega:(decide (n≤hi):Bool)=BZ n lo hi)),rfl⟩)
 have hg1e:=hg1
 rw[hg1e]
 replace hg1:=of_decide_eq_false hg1
 iterate 3 refine Yk ?_
 refine Zd (OD.pickF rfl rfl rfl) rfl ?_
 refine Za rfl (Zn (Zt (GC.ret ?_)))
 exact GE.body [] 0 (Ao rfl rfl) rfl (⟨congrArg (fun a0=>(.bool (a0):Value)) ((by unfold BZ;simp;omega:(false:Bool)=BZ n lo hi)),rfl⟩)
theorem G6 {W:World}{own:List Asn}{n:Int}{lo:Int}{hi:Int}:Spec Tryz.prog 77 [J (n),J (lo),J (hi)] W own (fun v ow=>v = .bool (BZ n lo hi)∧ow=own):=by
 refine Spec.enter Tryz.f77 _ Tryz.func77 rfl (n:=15) rfl rfl ?_
 refine Zs (Zr (Za rfl (Zn (Zt (Zs (Zr (Zm rfl (Zm rfl (Zd (OD.geq rfl rfl rfl) rfl ?_)))))))))
 refine Zm rfl ?_
 rcases Bool.eq_false_or_eq_true (decide (lo≤n)) with hg1 | hg1
 have hg1e:=hg1
 rw[hg1e]
 replace hg1:=of_decide_eq_true hg1
 refine Yd (OD.move rfl rfl) ?_
 refine Yd (OD.move rfl rfl) ?_
 refine Yd (OD.leq rfl rfl rfl) ?_
 refine Zd (OD.pickT rfl rfl rfl) rfl ?_
 refine Za rfl (Zn (Zt (GC.ret ?_)))
 exact GE.body [] 0 (Ao rfl rfl) rfl (⟨congrArg (fun a0=>(.bool (a0):Value)) ((by unfold BZ;simp;omega:(decide (n≤hi):Bool)=BZ n lo hi)),rfl⟩)
 have hg1e:=hg1
 rw[hg1e]
 replace hg1:=of_decide_eq_false hg1
 iterate 3 refine Yk ?_
 refine Zd (OD.pickF rfl rfl rfl) rfl ?_
 refine Za rfl (Zn (Zt (GC.ret ?_)))
 exact GE.body [] 0 (Ao rfl rfl) rfl (⟨congrArg (fun a0=>(.bool (a0):Value)) ((by unfold BZ;simp;omega:(false:Bool)=BZ n lo hi)),rfl⟩)
theorem EN {W:World}{own:List Asn}:Spec Tryz.prog 183 [] W own (fun v ow=>∃ (r0:Value),v=r0∧Ab r0∧ow=strs 9 r0 Bp::own):=by
 refine Spec.enter Tryz.f183 _ Tryz.func183 rfl (n:=2) rfl rfl ?_
 refine Zs (Zr (Za rfl (Zn (Zt (Zs (Zr ?_))))))
 refine Yt (OG.buildStrs (os:=[.const (.string (⟨#[65,49]⟩)),.const (.string (⟨#[65,50]⟩)),.const (.string (⟨#[65,51]⟩)),.const (.string (⟨#[65,52]⟩)),.const (.string (⟨#[66,50]⟩)),.const (.string (⟨#[66,51]⟩)),.const (.string (⟨#[66,52]⟩)),.const (.string (⟨#[67,51]⟩)),.const (.string (⟨#[67,52]⟩)),.const (.string (⟨#[68,52]⟩)),.const (.string (⟨#[70,52]⟩)),.const (.string (⟨#[71,50]⟩))]) (xs:=[⟨#[65,49]⟩,⟨#[65,50]⟩,⟨#[65,51]⟩,⟨#[65,52]⟩,⟨#[66,50]⟩,⟨#[66,51]⟩,⟨#[66,52]⟩,⟨#[67,51]⟩,⟨#[67,52]⟩,⟨#[68,52]⟩,⟨#[70,52]⟩,⟨#[71,50]⟩]) rfl Bk rfl rfl rfl rfl rfl) ?_
 rintro v1 _ ⟨hs2,rfl⟩
 refine Za rfl (Zn (Zt (GC.ret ?_)))
 exact GE.body [] 0 (Ao rfl rfl) rfl (⟨v1,rfl,hs2,rfl⟩)
theorem Sq {W:World}{own:List Asn}:Spec Tryz.prog 103 [] W own (fun v ow=>∃ (r0:Value),v=r0∧Ab r0∧ow=strs 9 r0 Bp::own):=by
 refine Spec.enter Tryz.f103 _ Tryz.func103 rfl (n:=2) rfl rfl ?_
 refine Zs (Zr (Za rfl (Zn (Zt (Zs (Zr ?_))))))
 refine Yt (OG.buildStrs (os:=[.const (.string (⟨#[65,49]⟩)),.const (.string (⟨#[65,50]⟩)),.const (.string (⟨#[65,51]⟩)),.const (.string (⟨#[65,52]⟩)),.const (.string (⟨#[66,50]⟩)),.const (.string (⟨#[66,51]⟩)),.const (.string (⟨#[66,52]⟩)),.const (.string (⟨#[67,51]⟩)),.const (.string (⟨#[67,52]⟩)),.const (.string (⟨#[68,52]⟩)),.const (.string (⟨#[70,52]⟩)),.const (.string (⟨#[71,50]⟩))]) (xs:=[⟨#[65,49]⟩,⟨#[65,50]⟩,⟨#[65,51]⟩,⟨#[65,52]⟩,⟨#[66,50]⟩,⟨#[66,51]⟩,⟨#[66,52]⟩,⟨#[67,51]⟩,⟨#[67,52]⟩,⟨#[68,52]⟩,⟨#[70,52]⟩,⟨#[71,50]⟩]) rfl Bk rfl rfl rfl rfl rfl) ?_
 rintro v1 _ ⟨hs2,rfl⟩
 refine Za rfl (Zn (Zt (GC.ret ?_)))
 exact GE.body [] 0 (Ao rfl rfl) rfl (⟨v1,rfl,hs2,rfl⟩)
theorem TY {W:World}{own:List Asn}{vx:Value}{x:List ByteArray}{s:ByteArray}(sx:Ab vx)(ex:Ent own fun w=>KQ w vx x)(hl:x.length≤9223372036854775807):Spec Tryz.prog 220 [vx,.string (s)] W own (fun v ow=>v=J (Y2 x s)∧ow=own):=by
 refine Spec.enter Tryz.f220 _ Tryz.func220 rfl (n:=19) rfl rfl ?_
 refine Zs (Zr (Za rfl (Zn (Zt (Zs (Zs (Zr (Zm rfl (Zd (Qn Bk ex) rfl ?_)))))))))
 refine Zm rfl (Zn (Zt (GC.block ?_)))
 refine Yl (ι:=Nat) (fun k=>[(0,vx),(1,.string (s)),(7,J ((x.length:Nat))),(8,J ((k:Int)))]) (fun k=>own) (fun k=>(k≤x.length)∧((x.take k).any ((Cb s ·))=false)) (fun k=>x.length - k) 0 (⟨by omega,by simp⟩) [] 0 ?_
 rintro k ⟨hk,ht⟩
 refine Zs (Zr (Zd Bb rfl ?_))
 refine Zn (Zt (Zs ?_))
 refine GC.cond rfl (fun hc1=>?_) (fun hc1=>?_)
 replace hc1:=of_decide_eq_true hc1
 refine Zk (Zt (Zs (GC.block (Zs (Zr ?_)))))
 refine Zm rfl (Za rfl (Zn (Zt (Zs (Zr (Zm rfl (Zm rfl (Zm rfl (Zd (Qi Bk ex) rfl ?_)))))))))
 refine Zd (OD.loadStr rfl af rfl ex (by omega)) rfl ?_
 refine Zd (OD.strEql rfl rfl rfl) rfl ?_
 refine Zn (Zt ?_)
 refine GC.cond rfl (fun hc2=>?_) (fun hc2=>?_)
 refine Zs (Zr (Zm rfl (Za rfl (Zn (Zt (GC.ret (GE.blockR (GE.passR (GE.passR (GE.blockR (GE.passR ?_)))))))))))
 exact GE.body [] 0 (Ao rfl rfl) rfl (⟨congrArg (fun a0=>(J (a0):Value)) (((Gu (d:=⟨#[]⟩) (by omega) ht (by assumption)).symm:((k:Int):Int)=Y2 x s)),rfl⟩)
 refine Zk (GE.blockN (Zt (Zr ?_)))
 refine Zd Qp rfl ?_
 exact Zm rfl (Zn (Yg (k+1) (⟨by omega,any_take_succ (d:=⟨#[]⟩) (by omega) ht (by assumption)⟩) [] 0))
 replace hc1:=of_decide_eq_false hc1
 refine GC.exit (Zp (Zp (GE.hit (Zt (Zs (Zr ?_))))))
 refine Za rfl (Zn (Zt (GC.ret ?_)))
 exact GE.body [] 0 (Ao rfl rfl) rfl (⟨congrArg (fun a0=>(J (a0):Value)) (((D2 (Cj (by omega) ht)).symm:(-1:Int)=Y2 x s)),rfl⟩)
theorem Nu {W:World}{own:List Asn}{vx:Value}{x:List ByteArray}{s:ByteArray}(sx:Ab vx)(ex:Ent own fun w=>KQ w vx x)(hl:x.length≤9223372036854775807):Spec Tryz.prog 205 [vx,.string (s)] W own (fun v ow=>v = .bool (SX x s)∧ow=own):=by
 refine Spec.enter Tryz.f205 _ Tryz.func205 rfl (n:=9) rfl rfl ?_
 refine Zs (Zr (Za rfl (Zn (Zt (Zs (Zr (Zm rfl (Zm rfl (Yt (Yc [vx,.string (s)] bA (by exact(TY sx ex (by omega)))) ?_)))))))))
 rintro _ _ ⟨rfl,hzz⟩;obtain rfl:=hzz.symm
 refine Zd (OD.geq rfl rfl rfl) rfl ?_
 refine Za rfl (Zn (Zt (GC.ret ?_)))
 exact GE.body [] 0 (Ao rfl rfl) rfl (⟨congrArg (fun a0=>(.bool (a0):Value)) ((posF_ge:(decide (0≤Y2 x s):Bool)=SX x s)),rfl⟩)
theorem UB {W:World}{own:List Asn}{vx:Value}{x:List Int}{q:Int}(sx:Ab vx)(ex:Ent own fun w=>Ints w vx x)(hl:x.length≤9223372036854775807):Spec Tryz.prog 208 [vx,J (q)] W own (fun v ow=>v=J (Hr x q)∧ow=own):=by
 refine Spec.enter Tryz.f208 _ Tryz.func208 rfl (n:=19) rfl rfl ?_
 refine Zs (Zr (Za rfl (Zn (Zt (Zs (Zs (Zr (Zm rfl (Zd (Qn Ac ex) rfl ?_)))))))))
 refine Zm rfl (Zn (Zt (GC.block ?_)))
 refine Yl (ι:=Nat) (fun k=>[(0,vx),(1,J (q)),(7,J ((x.length:Nat))),(8,J ((k:Int)))]) (fun k=>own) (fun k=>(k≤x.length)∧((x.take k).any ((q == ·))=false)) (fun k=>x.length - k) 0 (⟨by omega,by simp⟩) [] 0 ?_
 rintro k ⟨hk,ht⟩
 refine Zs (Zr (Zd Bb rfl ?_))
 refine Zn (Zt (Zs ?_))
 refine GC.cond rfl (fun hc1=>?_) (fun hc1=>?_)
 replace hc1:=of_decide_eq_true hc1
 refine Zk (Zt (Zs (GC.block (Zs (Zr ?_)))))
 refine Zm rfl (Za rfl (Zn (Zt (Zs (Zr (Zm rfl (Zm rfl (Zm rfl (Zd (Qi Ac ex) rfl ?_)))))))))
 refine Zd (Qv Ak ex) rfl ?_
 refine Zd FJ rfl ?_
 refine Zn (Zt ?_)
 refine GC.cond rfl (fun hc2=>?_) (fun hc2=>?_)
 replace hc2:=eq_of_beq hc2
 have hc2b:(_==_)=true:=beq_iff_eq.2 hc2
 refine Zs (Zr (Zm rfl (Za rfl (Zn (Zt (GC.ret (GE.blockR (GE.passR (GE.passR (GE.blockR (GE.passR ?_)))))))))))
 exact GE.body [] 0 (Ao rfl rfl) rfl (⟨congrArg (fun a0=>(J (a0):Value)) (((Gu (d:=0) (by omega) ht (by assumption)).symm:((k:Int):Int)=Hr x q)),rfl⟩)
 replace hc2:=ne_of_beq_false hc2
 have hc2b:=HD hc2
 refine Zk (GE.blockN (Zt (Zr ?_)))
 refine Zd Qp rfl ?_
 exact Zm rfl (Zn (Yg (k+1) (⟨by omega,any_take_succ (d:=0) (by omega) ht (by assumption)⟩) [] 0))
 replace hc1:=of_decide_eq_false hc1
 refine GC.exit (Zp (Zp (GE.hit (Zt (Zs (Zr ?_))))))
 refine Za rfl (Zn (Zt (GC.ret ?_)))
 exact GE.body [] 0 (Ao rfl rfl) rfl (⟨congrArg (fun a0=>(J (a0):Value)) (((D2 (Cj (by omega) ht)).symm:(-1:Int)=Hr x q)),rfl⟩)
theorem Hf {W:World}{own:List Asn}{vx:Value}{x:List Int}{q:Int}(sx:Ab vx)(ex:Ent own fun w=>Ints w vx x)(hl:x.length≤9223372036854775807):Spec Tryz.prog 187 [vx,J (q)] W own (fun v ow=>v = .bool (x.contains q)∧ow=own):=by
 refine Spec.enter Tryz.f187 _ Tryz.func187 rfl (n:=9) rfl rfl ?_
 refine Zs (Zr (Za rfl (Zn (Zt (Zs (Zr (Zm rfl (Zm rfl (Yt (Yc [vx,J (q)] b6 (by exact(UB sx ex (by omega)))) ?_)))))))))
 rintro _ _ ⟨rfl,hzz⟩;obtain rfl:=hzz.symm
 refine Zd (OD.geq rfl rfl rfl) rfl ?_
 refine Za rfl (Zn (Zt (GC.ret ?_)))
 exact GE.body [] 0 (Ao rfl rfl) rfl (⟨congrArg (fun a0=>(.bool (a0):Value)) ((posI_ge _ _:(decide (0≤Hr x q):Bool)=x.contains q)),rfl⟩)
theorem KE {W:World}{own:List Asn}{vx:Value}{x:List Int}{q:Int}(sx:Ab vx)(ex:Ent own fun w=>Ints w vx x)(hl:x.length≤9223372036854775807):Spec Tryz.prog 163 [vx,J (q)] W own (fun v ow=>v=J (Hr x q)∧ow=own):=by
 refine Spec.enter Tryz.f163 _ Tryz.func163 rfl (n:=19) rfl rfl ?_
 refine Zs (Zr (Za rfl (Zn (Zt (Zs (Zs (Zr (Za rfl (Zn (Zt (GC.block ?_)))))))))))
 refine Yl (ι:=Nat) (fun k=>[(0,vx),(1,J (q)),(5,J ((k:Int)))]) (fun k=>own) (fun k=>(k≤x.length)∧((x.take k).any ((q == ·))=false)) (fun k=>x.length - k) 0 (⟨by omega,by simp⟩) [] 0 ?_
 rintro k ⟨hk,ht⟩
 refine Zs (Zs (Zr (Zm rfl (Zm rfl (Zd (Qn Ac ex) rfl ?_)))))
 refine Zd Bb rfl ?_
 refine Zn (Zt ?_)
 refine GC.cond rfl (fun hc1=>?_) (fun hc1=>?_)
 replace hc1:=of_decide_eq_true hc1
 refine Zk (Zt (Zs (GC.block (Zs (Zr ?_)))))
 refine Zm rfl (Zm rfl (Zd (Qi Ac ex) rfl ?_))
 refine Zd (Qv Ak ex) rfl ?_
 refine Zm rfl (Zd FJ rfl ?_)
 refine Zn (Zt ?_)
 refine GC.cond rfl (fun hc2=>?_) (fun hc2=>?_)
 replace hc2:=eq_of_beq hc2
 have hc2b:(_==_)=true:=beq_iff_eq.2 (Eq.symm hc2)
 refine Zs (Zr (Zm rfl (Za rfl (Zn (Zt (GC.ret (GE.blockR (GE.passR (GE.passR (GE.blockR (GE.passR ?_)))))))))))
 exact GE.body [] 0 (Ao rfl rfl) rfl (⟨congrArg (fun a0=>(J (a0):Value)) (((Gu (d:=0) (by omega) ht (by assumption)).symm:((k:Int):Int)=Hr x q)),rfl⟩)
 replace hc2:=ne_of_beq_false hc2
 have hc2b:=HD (Ne.symm hc2)
 refine Zk (GE.blockN (Zt (Zr ?_)))
 refine Zm rfl (Zd Qp rfl ?_)
 exact Za rfl (Zn (Yg (k+1) (⟨by omega,any_take_succ (d:=0) (by omega) ht (by assumption)⟩) [] 0))
 replace hc1:=of_decide_eq_false hc1
 refine GC.exit (Zp (Zp (GE.hit (Zt (Zs (Zr ?_))))))
 refine Za rfl (Zn (Zt (GC.ret ?_)))
 exact GE.body [] 0 (Ao rfl rfl) rfl (⟨congrArg (fun a0=>(J (a0):Value)) (((D2 (Cj (by omega) ht)).symm:(-1:Int)=Hr x q)),rfl⟩)
theorem Rb {W:World}{own:List Asn}{vx:Value}{x:List Int}(sx:Ab vx)(ex:Ent own fun w=>Ints w vx x)(hl:x.length≤1073741824):Spec Tryz.prog 130 [vx] W own (fun v ow=>∃ (r0:Value),v=r0∧Ab r0∧ow=ints 3 r0 x::own):=by
 refine Spec.enter Tryz.f130 _ Tryz.func130 rfl (n:=8) rfl rfl ?_
 refine Zs (Zr (Za rfl (Zn (Zt (Zs (Zs (Zr (Zm rfl (Zd (OD.eqlNil rfl Ac.ht rfl sx rfl) rfl ?_)))))))))
 refine Zn (Zt ?_)
 refine GC.cond rfl (fun hc1=>?_) (fun hc1=>?_)
 refine GC.fact (Ent.imp ex fun w hw=>OH hw hc1) fun hnil=>?_
 refine Zs (Zr (Za rfl (Zn (Zt (GC.ret (GE.passR ?_))))))
 refine GE.nilInts 3 ?_
 exact GE.body [] 0 (Ao rfl rfl) rfl (⟨(.slice none 0 0),rfl,Ab.nil,congrArg (fun l0=>ints 3 (.slice none 0 0) l0::own) ((hnil.symm : []=x))⟩)
 refine Zk (Zt (Zs (Zr (Yt (OG.buildInts (xs:=[]) (is:=[]) rfl Ac rfl rfl rfl rfl rfl) ?_))))
 rintro v2 _ ⟨hs3,rfl⟩
 refine Zm rfl (Yt (OG.appendInts 0 rfl rfl Ac rfl rfl rfl (Ent.drop 1 ex) (by first | omega | (simp;omega))) ?_)
 rintro v4 _ ⟨hs5,rfl⟩
 refine Za rfl (Zn (Zt (GC.ret ?_)))
 exact GE.body [] 0 (Ao rfl rfl) rfl (⟨v4,rfl,hs5,congrArg (fun l0=>ints 3 v4 l0::own) ((List.nil_append _ : []++x=x))⟩)
theorem KR {W:World}{own:List Asn}{vx:Value}{x:List Int}(sx:Ab vx)(ex:Ent own fun w=>Ints w vx x)(hl:x.length≤1073741824):Spec Tryz.prog 108 [vx] W own (fun v ow=>∃ (r0:Value),v=r0∧Ab r0∧ow=ints 3 r0 x::own):=by
 refine Spec.enter Tryz.f108 _ Tryz.func108 rfl (n:=6) rfl rfl ?_
 refine Zs (Zr (Za rfl (Zn (Zt (Zs (Zr (Yt (OG.buildInts (xs:=[]) (is:=[]) rfl Ac rfl rfl rfl rfl rfl) ?_)))))))
 rintro v1 _ ⟨hs2,rfl⟩
 refine Zm rfl (Yt (OG.appendInts 0 rfl rfl Ac rfl rfl rfl (Ent.drop 1 ex) (by first | omega | (simp;omega))) ?_)
 rintro v3 _ ⟨hs4,rfl⟩
 refine Za rfl (Zn (Zt (GC.ret ?_)))
 exact GE.body [] 0 (Ao rfl rfl) rfl (⟨v3,rfl,hs4,congrArg (fun l0=>ints 3 v3 l0::own) ((List.nil_append _ : []++x=x))⟩)
theorem XY {W:World}{own:List Asn}{cr:Int}{vcd:Value}{cd:List Int}{i:Int}{j:Int}(scd:Ab vcd)(ecd:Ent own fun w=>Ints w vcd cd)(hb:0≤i*cr∧i*cr≤1000000∧0≤i*cr+j∧i*cr+j<cd.length∧i*cr+j≤1000000):Spec Tryz.prog 128 [.agg #[J (cr),vcd],J (i),J (j)] W own (fun v ow=>v=J (atI cr cd i j)∧ow=own):=by
 refine Spec.enter Tryz.f128 _ Tryz.func128 rfl (n:=17) rfl rfl ?_
 refine Zs (Zr (Yt (OG.box (cs:=[J (cr),vcd]) rfl rfl rfl) ?_))
 rintro _ _ ⟨g1,rfl,rfl⟩
 refine Za rfl (Zn (Zt (Zs (Zr (Zd (Qf AV) rfl ?_)))))
 refine Zd (Ql AH 0) rfl ?_
 refine Zm rfl (Zd (Qf Aq) rfl ?_)
 refine Zd (Ql Ak 0) rfl ?_
 refine Zd Qm rfl ?_
 refine Zm rfl (Zd Qp rfl ?_)
 refine Zd (Qi Ac (Ent.drop 1 ecd)) rfl ?_
 refine Zd (Qv Ak (Ent.drop 1 ecd)) rfl ?_
 refine Za rfl (Zn (Zt (GC.ret ?_)))
 exact GE.body [] 1 (Ao rfl rfl) rfl (⟨rfl,rfl⟩)
theorem Dc {W:World}{own:List Asn}{cr:Int}{vcd:Value}{cd:List Int}{i:Int}{j:Int}(scd:Ab vcd)(ecd:Ent own fun w=>Ints w vcd cd)(hb:0≤i*cr∧i*cr≤1000000∧0≤i*cr+j∧i*cr+j<cd.length∧i*cr+j≤1000000):Spec Tryz.prog 109 [.agg #[J (cr),vcd],J (i),J (j)] W own (fun v ow=>v=J (atI cr cd i j)∧ow=own):=by
 refine Spec.enter Tryz.f109 _ Tryz.func109 rfl (n:=17) rfl rfl ?_
 refine Zs (Zr (Yt (OG.box (cs:=[J (cr),vcd]) rfl rfl rfl) ?_))
 rintro _ _ ⟨g1,rfl,rfl⟩
 refine Za rfl (Zn (Zt (Zs (Zr (Zd (Qf AV) rfl ?_)))))
 refine Zd (Ql AH 0) rfl ?_
 refine Zm rfl (Zd (Qf Aq) rfl ?_)
 refine Zd (Ql Ak 0) rfl ?_
 refine Zd Qm rfl ?_
 refine Zm rfl (Zd Qp rfl ?_)
 refine Zd (Qi Ac (Ent.drop 1 ecd)) rfl ?_
 refine Zd (Qv Ak (Ent.drop 1 ecd)) rfl ?_
 refine Za rfl (Zn (Zt (GC.ret ?_)))
 exact GE.body [] 1 (Ao rfl rfl) rfl (⟨rfl,rfl⟩)
theorem Kh {W:World}{own:List Asn}{i:Int}{j:Int}{x:Int}{gc:Nat}{gn:Nat}{n:Int}{vy:Value}{ys:List Int}(hn:1≤n∧n≤4)(hi:1≤i∧i≤n)(hj:1≤j∧j≤n)(hl:(ys.length:Int)=n*n):Spec Tryz.prog 206 [J (i),J (j),J (x),Pg gc 0,Pg gn 0] W (box gc 27 [J (n),vy]::box gn 3 [J (n)]::ints 3 vy ys::own) (fun v ow=>v = .tuple #[]∧ow=box gc 27 [J (n),vy]::box gn 3 [J (n)]::ints 3 vy (D5 n ys i j x)::own):=by
 have hx:=Be (n:=n) (i:=i - 1) (j:=j - 1) ⟨by omega,by omega⟩ ⟨by omega,by omega⟩ (by omega)
 refine Spec.enter Tryz.f206 _ Tryz.func206 rfl (n:=19) rfl rfl ?_
 refine Zr (Zd (Qf AV) rfl ?_)
 refine Zd (Ql AH 0) rfl ?_
 refine Zm rfl (Zd Qs rfl ?_)
 refine Zd (Ql Ak 1) rfl ?_
 refine Zd Qm rfl ?_
 refine Zm rfl (Zd Qp rfl ?_)
 refine Zd Qs rfl ?_
 refine Zm rfl (Zd (Qi Ac (Ei 2)) rfl ?_)
 refine G.stepD0 (OD.storeInt rfl Ak rfl rfl (i:=2) rfl (by omega)) rfl rfl ?_
 exact Zn (GE.bodyN [] 0 (UN rfl) rfl (⟨rfl,rfl⟩))
theorem Mu {W:World}{own:List Asn}{i:Int}{j:Int}{gp:Nat}{gc gn:Nat}{n:Int}{vy:Value}{ys:List Int}(hn:1≤n∧n≤4)(hi:1≤i∧i≤n)(hj:1≤j∧j≤n)(hl:(ys.length:Int)=n*n):Spec Tryz.prog 207 [J (i),J (j),Pg gp 0] W (box gp 195 [.func (.func 206) #[] #[Pg gc 0,Pg gn 0]]::box gc 27 [J (n),vy]::box gn 3 [J (n)]::ints 3 vy ys::own) (fun v ow=>v = .tuple #[]∧ow=box gp 195 [.func (.func 206) #[] #[Pg gc 0,Pg gn 0]]::box gc 27 [J (n),vy]::box gn 3 [J (n)]::ints 3 vy (ED n ys i j)::own):=by
 refine Spec.enter Tryz.f207 _ Tryz.func207 rfl (n:=13) rfl rfl ?_
 refine Zs (Zr (Zd (Ql F7 0) rfl ?_))
 refine Zm rfl (Zm rfl (Yp [1,1,1] (_::_::_::_::own) ?_))
 refine Yt (Yc [J (i),J (j),J (-1),Pg gc 0,Pg gn 0] FP (by exact(Kh (by omega) (by omega) (by omega) (by first | exact hl | (rw[Bu];exact hl))))) ?_
 rintro _ _ ⟨rfl,rfl⟩
 refine Zn (Zt (Zr (Zd (Ql F7 3) rfl ?_)))
 refine Zm rfl (Zm rfl (Yt (Yc [J (j),J (i),J (-1),Pg gc 0,Pg gn 0] FP (by exact(Kh (by omega) (by omega) (by omega) (by first | exact hl | (rw[Bu];exact hl))))) ?_))
 rintro _ _ ⟨rfl,rfl⟩
 exact Zn (GE.bodyN [3,0,0,0] 0 (UN rfl) rfl (⟨rfl,congrArg (fun l3=>box gp 195 [.func (.func 206) #[] #[Pg gc 0,Pg gn 0]]::box gc 27 [J (n),vy]::box gn 3 [J (n)]::ints 3 vy l3::own) ((rfl:D5 n (D5 n ys i j (-1)) j i (-1)=ED n ys i j))⟩))
theorem M4 {W:World}{own:List Asn}{s:ByteArray}:Spec Tryz.prog 185 [.string (s)] W own (fun v ow=>∃ (r1:Value),v = .tuple #[.agg #[J (BI s),r1],.bool ((nameNo s).isSome)]∧Ab r1∧ow=ints 3 r1 (Dt s)::own):=by
 refine Spec.enter Tryz.f185 _ Tryz.func185 rfl (n:=80) rfl rfl ?_
 refine Zs (Zr (Yt (OG.alloc rfl An (zs:=[J (0),.slice none 0 0]) rfl) ?_))
 rintro _ _ ⟨g1,rfl,rfl⟩
 refine Za rfl (Zn (Zt (Zs (Zs (Zr (Yt (Yc [] OZ (by exact EN)) ?_))))))
 rintro v2 _ ⟨_,rfl,hs3,rfl⟩
 refine Zm rfl (Yt (Yc [v2,.string (s)] de (by exact(Nu hs3 (Ent.strs (i:=0) rfl) (by decide)))) ?_)
 rintro _ _ ⟨rfl,rfl⟩
 refine Zd (OD.not rfl rfl) rfl ?_
 refine Zn (Zt ?_)
 refine GC.cond rfl (fun hc4=>?_) (fun hc4=>?_)
 replace hc4:=Ai hc4
 obtain⟨hp1,hp2,hp3⟩:=SB hc4
 refine Zs (Zr (Zd (OD.build (idx:=[]) (xs:=[]) (vs:=[]) (cs:=[]) (zs:=[J (0),.slice none 0 0]) (r:=[J (0),.slice none 0 0]) rfl An rfl rfl rfl trivial rfl) rfl ?_))
 refine Yu An [J (0),.slice none 0 0] 1 rfl ?_
 refine Za rfl (Zn (Zt (GC.ret (GE.passR ?_))))
 refine GE.nilInts 3 ?_
 exact GE.body [0] 2 (AZ rfl (RVs.cons (Ag An rfl (i:=2) rfl rfl) (RVs.cons (AD rfl) RVs.nil)) rfl) rfl (⟨(.slice none 0 0),congr (congrArg (fun a0 a2=>(.tuple #[.agg #[J (a0),(.slice none 0 0)],.bool (a2)]:Value)) ((hp1.symm:(0:Int)=BI s))) ((hp3.symm:(false:Bool)=(nameNo s).isSome)),Ab.nil,congrArg (fun l0=>ints 3 (.slice none 0 0) l0::own) ((hp2.symm : []=Dt s))⟩)
 replace hc4:=Am hc4
 obtain⟨k,hk⟩:=Si hc4
 obtain⟨hk12,hse⟩:=EW hk
 have hrk:=Ga k hk12
 have hsz:s.size=2:=by rw[hse];exact Rk k hk12
 have hpD:Dt s=oneD k:=by simp[Dt,hk]
 have hpR:BI s=(rk k:Int):=by simp[BI,hk]
 have hpS:(nameNo s).isSome=true:=by simp[hk]
 have hN0:0≤(rk k:Int)*(rk k:Int):=Int.mul_nonneg (by omega) (by omega)
 have hN1:(rk k:Int)*(rk k:Int)≤4*4:=Int.mul_le_mul (by omega) (by omega) (by omega) (by omega)
 refine Zk (Zt (Zs (Zr (Zm rfl (Zd (OD.indexStr rfl Z9 rfl rfl (by omega)) rfl ?_)))))
 refine Zd (OD.eqv (OD.sub rfl rfl rfl) (congrArg (Value.int .u8) ((by rw[hse];exact NK k hk12):(IntKind.u8.wrap ((CW s 1) - 48):Int)=((rk k:Int))))) rfl ?_
 refine Zd (OD.convI rfl Nz rfl (by omega)) rfl ?_
 refine Yt (OG.alloc rfl Ak (zs:=[J (0)]) rfl) ?_
 rintro _ _ ⟨g5,rfl,rfl⟩
 refine Yu Ak [J ((rk k:Int))] 0 rfl ?_
 refine Zn (Zt (Zs (Ya [(0,_),(2,_),(4,_)] ?_)))
 refine Wp [Z0 18 (J ((rk k:Int))),Z0 19 (J ((rk k:Int))),Z0 20 (J ((rk k:Int))),Z1 21 [(1,19),(2,20)] (J ((rk k:Int)*(rk k:Int))),⟨22,[(3,21)],[],[],[4],fun ds=>((ds.getD 0 []).getD 0 undef),fun ds=>Ab ((ds.getD 0 []).getD 0 undef),fun ds=>[ints 3 ((ds.getD 0 []).getD 0 undef) (List.replicate ((rk k:Int)*(rk k:Int):Int).toNat (0:Int))]⟩,⟨23,[(0,18),(4,22)],[4],[],[4],fun ds => .agg #[J ((rk k:Int)),((ds.getD 0 []).getD 0 undef)],fun _=>True,fun _=>[]⟩,⟨5,[],[],[],[6],fun ds => .pointer (some ⟨(gOf ((ds.getD 0 []).getD 0 undef)),0,none⟩),fun _=>True,fun ds=>[box (gOf ((ds.getD 0 []).getD 0 undef)) 27 [J (0),.slice none 0 0]]⟩] (Zc (fun _ _ _=>Zq (Ql Ak 0) rfl) (Zc (fun _ _ _=>Zq (Ql Ak 0) rfl) (Zc (fun _ _ _=>Zq (Ql Ak 0) rfl) (Zc (fun _ _ _=>Zq Qm rfl) (Zc (fun _ _ _=>AR.plain (OG.imp (OG.makeInts rfl Ac rfl rfl (by omega)) (by rintro v6 _ ⟨hs7,rfl⟩;exact⟨[v6],rfl,hs7,rfl⟩)) rfl) (Zc (fun θ _ ⟨_,h4d,_⟩=>Zq (OD.build (idx:=[0,1]) (xs:=[.tmp 18,.tmp 22]) (vs:=[J ((rk k:Int)),((θ 4).getD 0 undef)]) (cs:=[[J ((rk k:Int))],[((θ 4).getD 0 undef)]]) (zs:=[J (0),.slice none 0 0]) (r:=[J ((rk k:Int)),((θ 4).getD 0 undef)]) rfl An rfl rfl rfl ⟨rfl,⟨(AN (Ab.one h4d)),trivial⟩⟩ rfl) rfl) (Zc (fun _ _ _=>AR.plain (OG.imp (OG.alloc rfl An (zs:=[J (0),.slice none 0 0]) rfl) (by rintro _ _ ⟨g8,rfl,rfl⟩;exact⟨[Pg g8 0],rfl,trivial,rfl⟩)) rfl) As.nil))))))) ?_
 intro θ hall
 obtain⟨_,_,_,_,h4a,_,h6a,_⟩:=hall
 refine Yb [(0,_),(2,_),(4,_),(23,.agg #[J ((rk k:Int)),((θ 4).getD 0 undef)]),(5,.pointer (some ⟨(gOf ((θ 6).getD 0 undef)),0,none⟩))] (ints 3 ((θ 4).getD 0 undef) (List.replicate ((rk k:Int)*(rk k:Int):Int).toNat (0:Int))::box (gOf ((θ 6).getD 0 undef)) 27 [J (0),.slice none 0 0]::_::_) ?_
 have hs9:Ab ((θ 4).getD 0 undef):=h4a
 clear h4a
 generalize ((θ 4).getD 0 undef)=v10 at *
 clear h6a
 generalize (gOf ((θ 6).getD 0 undef))=b11 at *
 show G _ _ _ [_] _ _ _ _
 refine Yu An [J ((rk k:Int)),v10] 1 (Ad rfl (Ad (Ab.one hs9) rfl)) ?_
 refine Zn (Zt (Zs (Zr (Zd (OD.makeFunc (first:=[]) (captured:=[.tmp 5,.tmp 4]) (us:=[]) (vs:=[Pg b11 0,Pg g5 0]) rfl rfl rfl) rfl ?_))))
 refine Yt (OG.alloc rfl F7 (zs:=[.nilFunc]) rfl) ?_
 rintro _ _ ⟨g12,rfl,rfl⟩
 refine Yu F7 [.func (.func 206) #[] #[Pg b11 0,Pg g5 0]] 0 rfl ?_
 refine Zn (Zt (Zs (Zr (Zd (OD.makeFunc (first:=[]) (captured:=[.tmp 6]) (us:=[]) (vs:=[Pg g12 0]) rfl rfl rfl) rfl ?_))))
 refine Za rfl (Zn (Zt (Zs (Zs (Zr (Za rfl (Zn (Zt (GC.block ?_)))))))))
 refine GC.loop (ι:=Nat × List Int) (fun⟨q,ys⟩=>[(0,.string (s)),(2,Pg g1 0),(4,Pg g5 0),(5,Pg b11 0),(6,Pg g12 0),(7,.func (.func 207) #[] #[Pg g12 0]),(8,J ((q:Int)+1))]) (fun⟨q,ys⟩=>box g12 195 [.func (.func 206) #[] #[Pg b11 0,Pg g5 0]]::ints 3 v10 ys::box b11 27 [J ((rk k:Int)),v10]::box g5 3 [J ((rk k:Int))]::strs 9 v2 Bp::box g1 27 [J (0),.slice none 0 0]::own) (fun⟨q,ys⟩=>(q≤rk k)∧((ys.length:Int)=(rk k:Int)*(rk k:Int))∧(ys=(List.range q).foldl (itI k) (List.replicate ((rk k:Int)*(rk k:Int)).toNat 0))) (fun⟨q,ys⟩=>rk k - q) (0,List.replicate ((rk k:Int)*(rk k:Int)).toNat 0) (⟨by omega,by rw[List.length_replicate];omega,rfl⟩) ⟨rfl,rfl,rfl,rfl,rfl,rfl,int_eq (by omega),trivial⟩ [] 0 rfl ?_
 rintro⟨q,ys⟩ ⟨hq,hyl,hy⟩
 refine Zs (Zs (Zr (Zm rfl (Zd (Ql Ak 3) rfl ?_))))
 refine Zd (OD.leq rfl rfl rfl) rfl ?_
 refine Zn (Zt ?_)
 refine GC.cond rfl (fun hc13=>?_) (fun hc13=>?_)
 replace hc13:=of_decide_eq_true hc13
 refine Zk (Zt (Zs (GC.block (Zs (Zr ?_)))))
 refine Zd (Ql F7 0) rfl ?_
 refine Zm rfl (Zm rfl (Yp [2,2,1] (_::_::_::_::_::_::own) ?_))
 refine Yt (Yc [J ((q:Int)+1),J ((q:Int)+1),J (2),Pg b11 0,Pg g5 0] FP (by exact(Kh (by omega) (by omega) (by omega) (by first | exact hyl | (simp only[Bu,BB];exact hyl))))) ?_
 rintro _ _ ⟨rfl,rfl⟩
 refine Zn (Zt (Zs (Zr (Zm rfl (Zd (Ql Ak 1) rfl ?_)))))
 refine Zd Bb rfl ?_
 refine Zm rfl ?_
 rcases Bool.eq_false_or_eq_true (decide ((q:Int)+1<(rk k:Int))) with hg14 | hg14
 have hg14e:=hg14
 rw[hg14e]
 replace hg14:=of_decide_eq_true hg14
 refine Yd (OD.move rfl rfl) ?_
 refine Yd (OD.eqv (OD.strNeq rfl rfl rfl) (congrArg (Value.bool) ((by rw[hse,fh k hk12]):_=(!(k==9))))) ?_
 refine Zd (OD.pickT rfl rfl rfl) rfl ?_
 refine Zn (Zt ?_)
 refine GC.cond rfl (fun hc15=>?_) (fun hc15=>?_)
 replace hc15:=Ai hc15
 refine Zr (Zm rfl (Zm rfl (Zm rfl (Zd Qp rfl ?_))))
 refine Yp [3,0,0,0] (_::_::_::_::_::_::own) ?_
 refine Yt (Yc [J ((q:Int)+1),J (((q:Int)+1)+1),Pg g12 0] MV (by exact(Mu (by omega) (by omega) (by omega) (by first | exact hyl | (simp only[Bu,BB];exact hyl))))) ?_
 rintro _ _ ⟨rfl,rfl⟩
 refine Zn (GE.blockN (Zt (Zr ?_)))
 refine Zm rfl (Zd Qp rfl ?_)
 refine Za rfl (Zn ?_)
 exact GE.again (q+1,ED (rk k:Int) (D5 (rk k:Int) ys ((q:Int)+1) ((q:Int)+1) 2) ((q:Int)+1) (((q:Int)+1)+1)) (⟨by omega,by simp only[Bu,BB];exact hyl,Ar hy (by unfold itI;by_cases h9:k=9 <;> by_cases hlt:(q:Int)+1<rk k <;> first | (rw[if_pos ⟨hlt,h9⟩];done) | (rw[if_neg (fun hh=>hh.2 h9)];done) | (rw[if_neg (fun hh=>hlt hh.1)];done) | (exfalso;omega) | (exfalso;simp_all;done))⟩) (by first | omega | (dsimp only;omega)) ⟨rfl,rfl,rfl,rfl,rfl,rfl,int_eq (by omega),trivial⟩ [0,2,0,0,0,0] 0 rfl
 replace hc15:=Am hc15
 refine Zk (GE.blockN (Zt (Zr ?_)))
 refine Zm rfl (Zd Qp rfl ?_)
 refine Za rfl (Zn ?_)
 exact GE.again (q+1,D5 (rk k:Int) ys ((q:Int)+1) ((q:Int)+1) 2) (⟨by omega,by simp only[Bu,BB];exact hyl,Ar hy (by unfold itI;by_cases h9:k=9 <;> by_cases hlt:(q:Int)+1<rk k <;> first | (rw[if_pos ⟨hlt,h9⟩];done) | (rw[if_neg (fun hh=>hh.2 h9)];done) | (rw[if_neg (fun hh=>hlt hh.1)];done) | (exfalso;omega) | (exfalso;simp_all;done))⟩) (by first | omega | (dsimp only;omega)) ⟨rfl,rfl,rfl,rfl,rfl,rfl,int_eq (by omega),trivial⟩ [3,2,0,0,0,0] 0 rfl
 have hg14e:=hg14
 rw[hg14e]
 replace hg14:=of_decide_eq_false hg14
 iterate 2 refine Yk ?_
 refine Zd (OD.pickF rfl rfl rfl) rfl ?_
 refine Zn (Zt (GC.condF rfl (Zk (GE.blockN (Zt (Zr ?_))))))
 refine Zm rfl (Zd Qp rfl ?_)
 refine Za rfl (Zn ?_)
 exact GE.again (q+1,D5 (rk k:Int) ys ((q:Int)+1) ((q:Int)+1) 2) (⟨by omega,by simp only[Bu,BB];exact hyl,Ar hy (by unfold itI;by_cases h9:k=9 <;> by_cases hlt:(q:Int)+1<rk k <;> first | (rw[if_pos ⟨hlt,h9⟩];done) | (rw[if_neg (fun hh=>hh.2 h9)];done) | (rw[if_neg (fun hh=>hlt hh.1)];done) | (exfalso;omega) | (exfalso;simp_all;done))⟩) (by first | omega | (dsimp only;omega)) ⟨rfl,rfl,rfl,rfl,rfl,rfl,int_eq (by omega),trivial⟩ [3,2,0,0,0,0] 0 rfl
 replace hc13:=of_decide_eq_false hc13
 refine GC.exit (Zp (Zp (GE.hit (Zt (Zs (Zs (Zr ?_)))))))
 refine Zm rfl (Zd (OD.indexStr rfl Z9 rfl rfl (by omega)) rfl ?_)
 refine Zn (Zt (GC.block (Zs (Zr ?_))))
 refine Zd FJ rfl ?_
 refine Za rfl (Zn (Zt ?_))
 refine GC.cond rfl (fun hc16=>?_) (fun hc16=>?_)
 replace hc16:=eq_of_beq hc16
 have hbb:CW (Ap k) 0=66:=by rw[← hse];exact hc16
 have hr2:=fb k hk12 hbb
 refine Zr (Zd (Ql F7 0) rfl ?_)
 refine Zd (Ql Ak 3) rfl ?_
 refine Zd (Ql Ak 3) rfl ?_
 refine Zd Qs rfl ?_
 refine Yp [2,2,1] (_::_::_::_::_::_::own) ?_
 refine Yt (Yc [J ((rk k:Int)),J ((rk k:Int) - 1),J (-2),Pg b11 0,Pg g5 0] FP (by exact(Kh (by omega) (by omega) (by omega) (by first | exact hyl | (simp only[Bu,BB];exact hyl))))) ?_
 rintro _ _ ⟨rfl,rfl⟩
 refine Zn (GE.blockN (Zt (Zs (Zr ?_))))
 refine Zd (Qa An 0 [_,_]) rfl ?_
 refine Yu An [J ((rk k:Int)),v10] 5 (Ad rfl (Ad (Ab.one hs9) rfl)) ?_
 refine Za rfl (Zn (Zt (GC.ret ?_)))
 exact GE.body [2] 5 (AZ rfl (RVs.cons (Ag An rfl (i:=5) rfl rfl) (RVs.cons (AD rfl) RVs.nil)) rfl) rfl (⟨v10,congr (congrArg (fun a0 a2=>(.tuple #[.agg #[J (a0),v10],.bool (a2)]:Value)) ((hpR.symm:((rk k:Int):Int)=BI s))) ((hpS.symm:(true:Bool)=(nameNo s).isSome)),hs9,congrArg (fun l0=>ints 3 v10 l0::own) ((by rw[hpD,hy,show q=rk k by omega];exact gy k hk12 hbb:D5 (rk k:Int) ys (rk k:Int) ((rk k:Int) - 1) (-2)=Dt s))⟩)
 replace hc16:=ne_of_beq_false hc16
 have hc16n:CW (Ap k) 0≠66:=by rw[← hse];exact hc16
 refine Zs (Zr (Zd FJ rfl ?_))
 refine Za rfl (Zn (Zt ?_))
 refine GC.cond rfl (fun hc17=>?_) (fun hc17=>?_)
 replace hc17:=eq_of_beq hc17
 have hbb:CW (Ap k) 0=67:=by rw[← hse];exact hc17
 have hr2:=fJ k hk12 hbb
 refine Zr (Zd (Ql F7 0) rfl ?_)
 refine Zd (Ql Ak 3) rfl ?_
 refine Zd Qs rfl ?_
 refine Zd (Ql Ak 3) rfl ?_
 refine Yp [2,2,1] (_::_::_::_::_::_::own) ?_
 refine Yt (Yc [J ((rk k:Int) - 1),J ((rk k:Int)),J (-2),Pg b11 0,Pg g5 0] FP (by exact(Kh (by omega) (by omega) (by omega) (by first | exact hyl | (simp only[Bu,BB];exact hyl))))) ?_
 rintro _ _ ⟨rfl,rfl⟩
 refine Zn (GE.blockN (Zt (Zs (Zr ?_))))
 refine Zd (Qa An 0 [_,_]) rfl ?_
 refine Yu An [J ((rk k:Int)),v10] 5 (Ad rfl (Ad (Ab.one hs9) rfl)) ?_
 refine Za rfl (Zn (Zt (GC.ret ?_)))
 exact GE.body [2] 5 (AZ rfl (RVs.cons (Ag An rfl (i:=5) rfl rfl) (RVs.cons (AD rfl) RVs.nil)) rfl) rfl (⟨v10,congr (congrArg (fun a0 a2=>(.tuple #[.agg #[J (a0),v10],.bool (a2)]:Value)) ((hpR.symm:((rk k:Int):Int)=BI s))) ((hpS.symm:(true:Bool)=(nameNo s).isSome)),hs9,congrArg (fun l0=>ints 3 v10 l0::own) ((by rw[hpD,hy,show q=rk k by omega];exact gC k hk12 hbb:D5 (rk k:Int) ys ((rk k:Int) - 1) (rk k:Int) (-2)=Dt s))⟩)
 replace hc17:=ne_of_beq_false hc17
 have hc17n:CW (Ap k) 0≠67:=by rw[← hse];exact hc17
 refine Zs (Zr (Zd FJ rfl ?_))
 refine Za rfl (Zn (Zt ?_))
 refine GC.cond rfl (fun hc18=>?_) (fun hc18=>?_)
 replace hc18:=eq_of_beq hc18
 have hbb:CW (Ap k) 0=70:=by rw[← hse];exact hc18
 have hr2:=(dR k hk12 hbb).2
 refine Zr (Zd (Ql F7 0) rfl ?_)
 refine Yp [2,2,1] (_::_::_::_::_::_::own) ?_
 refine Yt (Yc [J (3),J (2),J (-2),Pg b11 0,Pg g5 0] FP (by exact(Kh (by omega) (by omega) (by omega) (by first | exact hyl | (simp only[Bu,BB];exact hyl))))) ?_
 rintro _ _ ⟨rfl,rfl⟩
 refine Zn (GE.blockN (Zt (Zs (Zr ?_))))
 refine Zd (Qa An 0 [_,_]) rfl ?_
 refine Yu An [J ((rk k:Int)),v10] 5 (Ad rfl (Ad (Ab.one hs9) rfl)) ?_
 refine Za rfl (Zn (Zt (GC.ret ?_)))
 exact GE.body [2] 5 (AZ rfl (RVs.cons (Ag An rfl (i:=5) rfl rfl) (RVs.cons (AD rfl) RVs.nil)) rfl) rfl (⟨v10,congr (congrArg (fun a0 a2=>(.tuple #[.agg #[J (a0),v10],.bool (a2)]:Value)) ((hpR.symm:((rk k:Int):Int)=BI s))) ((hpS.symm:(true:Bool)=(nameNo s).isSome)),hs9,congrArg (fun l0=>ints 3 v10 l0::own) ((by rw[hpD,hy,show q=rk k by omega];exact(dR k hk12 hbb).1:D5 (rk k:Int) ys 3 2 (-2)=Dt s))⟩)
 replace hc18:=ne_of_beq_false hc18
 have hc18n:CW (Ap k) 0≠70:=by rw[← hse];exact hc18
 refine Zs (Zr (Zd FJ rfl ?_))
 refine Za rfl (Zn (Zt ?_))
 refine GC.cond rfl (fun hc19=>?_) (fun hc19=>?_)
 replace hc19:=eq_of_beq hc19
 have hbb:CW (Ap k) 0=71:=by rw[← hse];exact hc19
 have hr2:=(eG k hk12 hbb).2
 refine Zr (Zd (Ql F7 0) rfl ?_)
 refine Yp [2,2,1] (_::_::_::_::_::_::own) ?_
 refine Yt (Yc [J (1),J (2),J (-3),Pg b11 0,Pg g5 0] FP (by exact(Kh (by omega) (by omega) (by omega) (by first | exact hyl | (simp only[Bu,BB];exact hyl))))) ?_
 rintro _ _ ⟨rfl,rfl⟩
 refine Zn (GE.blockN (Zt (Zs (Zr ?_))))
 refine Zd (Qa An 0 [_,_]) rfl ?_
 refine Yu An [J ((rk k:Int)),v10] 5 (Ad rfl (Ad (Ab.one hs9) rfl)) ?_
 refine Za rfl (Zn (Zt (GC.ret ?_)))
 exact GE.body [2] 5 (AZ rfl (RVs.cons (Ag An rfl (i:=5) rfl rfl) (RVs.cons (AD rfl) RVs.nil)) rfl) rfl (⟨v10,congr (congrArg (fun a0 a2=>(.tuple #[.agg #[J (a0),v10],.bool (a2)]:Value)) ((hpR.symm:((rk k:Int):Int)=BI s))) ((hpS.symm:(true:Bool)=(nameNo s).isSome)),hs9,congrArg (fun l0=>ints 3 v10 l0::own) ((by rw[hpD,hy,show q=rk k by omega];exact(eG k hk12 hbb).1:D5 (rk k:Int) ys 1 2 (-3)=Dt s))⟩)
 replace hc19:=ne_of_beq_false hc19
 have hc19n:CW (Ap k) 0≠71:=by rw[← hse];exact hc19
 refine Zs (Zr (Zd FJ rfl ?_))
 refine Za rfl (Zn (Zt ?_))
 refine GC.cond rfl (fun hc20=>?_) (fun hc20=>?_)
 replace hc20:=eq_of_beq hc20
 have hbb:CW (Ap k) 0=68:=by rw[← hse];exact hc20
 have hr2:=(eT k hk12 hbb).2
 refine Zs (Zr (Zm rfl (Yp [0,1,1,0] (_::_::_::_::_::_::own) ?_)))
 refine Yt (Yc [J (2),J (1),Pg g12 0] MV (by exact(Mu (by omega) (by omega) (by omega) (by first | exact hyl | (simp only[Bu,BB];exact hyl))))) ?_
 rintro _ _ ⟨rfl,rfl⟩
 refine Zn (Zt (Zs (Zr (Zm rfl (Yt (Yc [J (2),J (3),Pg g12 0] MV (by exact(Mu (by omega) (by omega) (by omega) (by first | exact hyl | (simp only[Bu,BB];exact hyl))))) ?_)))))
 rintro _ _ ⟨rfl,rfl⟩
 refine Zn (Zt (Zr (Zm rfl (Yt (Yc [J (2),J (4),Pg g12 0] MV (by exact(Mu (by omega) (by omega) (by omega) (by first | exact hyl | (simp only[Bu,BB];exact hyl))))) ?_))))
 rintro _ _ ⟨rfl,rfl⟩
 refine Zn (GE.blockN (Zt (Zs (Zr ?_))))
 refine Zd (Qa An 1 [_,_]) rfl ?_
 refine Yu An [J ((rk k:Int)),v10] 5 (Ad rfl (Ad (Ab.one hs9) rfl)) ?_
 refine Za rfl (Zn (Zt (GC.ret ?_)))
 exact GE.body [3] 5 (AZ rfl (RVs.cons (Ag An rfl (i:=5) rfl rfl) (RVs.cons (AD rfl) RVs.nil)) rfl) rfl (⟨v10,congr (congrArg (fun a0 a2=>(.tuple #[.agg #[J (a0),v10],.bool (a2)]:Value)) ((hpR.symm:((rk k:Int):Int)=BI s))) ((hpS.symm:(true:Bool)=(nameNo s).isSome)),hs9,congrArg (fun l0=>ints 3 v10 l0::own) ((by rw[hpD,hy,show q=rk k by omega];exact(eT k hk12 hbb).1:ED (rk k:Int) (ED (rk k:Int) (ED (rk k:Int) ys 2 1) 2 3) 2 4=Dt s))⟩)
 replace hc20:=ne_of_beq_false hc20
 have hc20n:CW (Ap k) 0≠68:=by rw[← hse];exact hc20
 refine Zk (GE.blockN (Zt (Zs (Zr ?_))))
 refine Zd (Qa An 2 [_,_]) rfl ?_
 refine Yu An [J ((rk k:Int)),v10] 5 (Ad rfl (Ad (Ab.one hs9) rfl)) ?_
 refine Za rfl (Zn (Zt (GC.ret ?_)))
 exact GE.body [1] 5 (AZ rfl (RVs.cons (Ag An rfl (i:=5) rfl rfl) (RVs.cons (AD rfl) RVs.nil)) rfl) rfl (⟨v10,congr (congrArg (fun a0 a2=>(.tuple #[.agg #[J (a0),v10],.bool (a2)]:Value)) ((hpR.symm:((rk k:Int):Int)=BI s))) ((hpS.symm:(true:Bool)=(nameNo s).isSome)),hs9,congrArg (fun l0=>ints 3 v10 l0::own) ((by rw[hpD,hy,show q=rk k by omega];exact gu k hk12 ⟨by assumption,by assumption,by assumption,by assumption,by assumption⟩:ys=Dt s))⟩)
theorem XK {W:World}{own:List Asn}{s:ByteArray}{k:Nat}(hk12:k<12)(hse:s=Ap k):Spec Tryz.prog 105 [.string (s)] W own (fun v ow=>∃ (r1:Value),v = .agg #[J ((rk k:Int)),r1]∧Ab r1∧ow=ints 3 r1 (oneD k)::own):=by
 have hrk:=Ga k hk12
 have hsz:s.size=2:=by rw[hse];exact Rk k hk12
 have hN0:0≤(rk k:Int)*(rk k:Int):=Int.mul_nonneg (by omega) (by omega)
 have hN1:(rk k:Int)*(rk k:Int)≤4*4:=Int.mul_le_mul (by omega) (by omega) (by omega) (by omega)
 refine Spec.enter Tryz.f105 _ Tryz.func105 rfl (n:=118) rfl rfl ?_
 refine Zs (Zr (Yt (OG.alloc rfl An (zs:=[J (0),.slice none 0 0]) rfl) ?_))
 rintro _ _ ⟨g1,rfl,rfl⟩
 refine Zn (Zt (Zs (Zr (Zm rfl (Zd (OD.indexStr rfl Z9 rfl rfl (by omega)) rfl ?_)))))
 refine Zd (OD.eqv (OD.sub rfl rfl rfl) (congrArg (Value.int .u8) ((by rw[hse];exact NK k hk12):(IntKind.u8.wrap ((CW s 1) - 48):Int)=((rk k:Int))))) rfl ?_
 refine Zd (OD.convI rfl Nz rfl (by omega)) rfl ?_
 refine Za rfl (Zn (Zt (Zs (Zr (Zm rfl (Zm rfl (Zm rfl (Zd Qm rfl ?_))))))))
 refine Yt (OG.makeInts rfl Ac rfl rfl (by omega)) ?_
 rintro v2 _ ⟨hs3,rfl⟩
 refine Zd (OD.build (idx:=[0,1]) (xs:=[.tmp 11,.tmp 15]) (vs:=[J ((rk k:Int)),v2]) (cs:=[[J ((rk k:Int))],[v2]]) (zs:=[J (0),.slice none 0 0]) (r:=[J ((rk k:Int)),v2]) rfl An rfl rfl rfl ⟨rfl,⟨(AN (Ab.one hs3)),trivial⟩⟩ rfl) rfl ?_
 refine Yt (OG.alloc rfl An (zs:=[J (0),.slice none 0 0]) rfl) ?_
 rintro _ _ ⟨g4,rfl,rfl⟩
 refine Yu An [J ((rk k:Int)),v2] 0 (Ad rfl (Ad (Ab.one hs3) rfl)) ?_
 refine Zn (Zt (Zs (Zs (Zr (Za rfl (Zn (Zt (GC.block ?_))))))))
 refine Yl (ι:=Nat × List Int) (fun⟨q,ys⟩=>[(0,.string (s)),(2,Pg g1 0),(3,J ((rk k:Int))),(4,Pg g4 0),(5,J ((q:Int)))]) (fun⟨q,ys⟩=>box g4 27 [J ((rk k:Int)),v2]::ints 3 v2 ys::box g1 27 [J (0),.slice none 0 0]::own) (fun⟨q,ys⟩=>(q≤rk k)∧((ys.length:Int)=(rk k:Int)*(rk k:Int))∧(ys=(List.range q).foldl (itS k) (List.replicate ((rk k:Int)*(rk k:Int)).toNat 0))) (fun⟨q,ys⟩=>rk k - q) (0,List.replicate ((rk k:Int)*(rk k:Int)).toNat 0) (⟨by omega,by rw[List.length_replicate];omega,rfl⟩) [] 0 ?_
 rintro⟨q,ys⟩ ⟨hq,hyl,hy⟩
 refine Zs (Zs (Zr (Zm rfl (Zm rfl (Zd Bb rfl ?_)))))
 refine Zn (Zt ?_)
 refine GC.cond rfl (fun hc5=>?_) (fun hc5=>?_)
 replace hc5:=of_decide_eq_true hc5
 have hx:=Be (n:=(rk k:Int)) (i:=q) (j:=q) ⟨by omega,by omega⟩ ⟨by omega,by omega⟩ (by omega)
 refine Zk (Zt (Zs (GC.block (Zs (Zr ?_)))))
 refine Zd (Qf AV) rfl ?_
 refine Zd (Ql AH 0) rfl ?_
 refine Zm rfl (Zm rfl (Zd Qm rfl ?_))
 refine Zm rfl (Zd Qp rfl ?_)
 refine Zd (Qi Ac (Ei 1)) rfl ?_
 refine G.stepD0 (OD.storeInt rfl Ak rfl rfl (i:=1) rfl (by omega)) rfl rfl ?_
 refine Zn (Zt (Zs (Zr (Zm rfl (Zd (OD.addI rfl rfl rfl (by first | omega | (simp only[List.length_set,List.length_replicate];omega))) rfl ?_)))))
 refine Zm rfl (Zd Bb rfl ?_)
 refine Zm rfl ?_
 rcases Bool.eq_false_or_eq_true (decide ((q:Int)+1<(rk k:Int))) with hg6 | hg6
 have hg6e:=hg6
 rw[hg6e]
 replace hg6:=of_decide_eq_true hg6
 refine Yd (OD.move rfl rfl) ?_
 refine Yd (OD.indexStr rfl Z9 rfl rfl (by first | omega | (simp only[List.length_set,List.length_replicate];omega))) ?_
 refine Yd (OD.eqv EK (congrArg (Value.bool) ((by rw[hse];exact gg k hk12):_=(k != 9)))) ?_
 refine Zd (OD.pickT rfl rfl rfl) rfl ?_
 refine Zn (Zt ?_)
 refine GC.cond rfl (fun hc7=>?_) (fun hc7=>?_)
 have hx2:=Be (n:=(rk k:Int)) (i:=q) (j:=(q:Int)+1) ⟨by omega,by omega⟩ ⟨by omega,by omega⟩ (by omega)
 have hx3:=Be (n:=(rk k:Int)) (i:=(q:Int)+1) (j:=q) ⟨by omega,by omega⟩ ⟨by omega,by omega⟩ (by omega)
 refine Zs (Zr (Zd (Qf AV) rfl ?_))
 refine Zd (Ql AH 0) rfl ?_
 refine Zm rfl (Zm rfl (Zd (OD.mulI rfl rfl rfl (by first | omega | (simp only[List.length_set,List.length_replicate];omega))) rfl ?_))
 refine Zm rfl (Zd (OD.addI rfl rfl rfl (by first | omega | (simp only[List.length_set,List.length_replicate];omega))) rfl ?_)
 refine Zd (OD.addI rfl rfl rfl (by first | omega | (simp only[List.length_set,List.length_replicate];omega))) rfl ?_
 refine Zd (OD.indexAddr rfl Ac rfl (Ei 1) rfl (by first | omega | (simp only[List.length_set,List.length_replicate];omega))) rfl ?_
 refine G.stepD0 (OD.storeInt rfl Ak rfl rfl (i:=1) rfl (by first | omega | (simp only[List.length_set,List.length_replicate];omega))) rfl rfl ?_
 refine Zn (Zt (Zr (Zd (Qf AV) rfl ?_)))
 refine Zd (Ql AH 0) rfl ?_
 refine Zm rfl (Zd (OD.addI rfl rfl rfl (by first | omega | (simp only[List.length_set,List.length_replicate];omega))) rfl ?_)
 refine Zm rfl (Zd (OD.mulI rfl rfl rfl (by first | omega | (simp only[List.length_set,List.length_replicate];omega))) rfl ?_)
 refine Zm rfl (Zd (OD.addI rfl rfl rfl (by first | omega | (simp only[List.length_set,List.length_replicate];omega))) rfl ?_)
 refine Zd (OD.indexAddr rfl Ac rfl (Ei 1) rfl (by first | omega | (simp only[List.length_set,List.length_replicate];omega))) rfl ?_
 refine G.stepD0 (OD.storeInt rfl Ak rfl rfl (i:=1) rfl (by first | omega | (simp only[List.length_set,List.length_replicate];omega))) rfl rfl ?_
 refine Zn (GE.blockN (Zt (Zr ?_)))
 refine Zm rfl (Zd (OD.addI rfl rfl rfl (by first | omega | (simp only[List.length_set,List.length_replicate];omega))) rfl ?_)
 refine Za rfl (Zn ?_)
 exact Yg (q+1,(((ys).set ((((q:Int)*(rk k:Int))+(q:Int):Int).toNat) (2)).set (((((q:Int)*(rk k:Int))+(q:Int))+1:Int).toNat) (-1)).set (((((q:Int)+1)*(rk k:Int))+(q:Int):Int).toNat) (-1)) (⟨by omega,by simp only[List.length_set];exact hyl,Ar hy (by unfold itS;by_cases h9:k=9 <;> by_cases hlt:(q:Int)+1<rk k <;> first | (rw[if_pos ⟨hlt,h9⟩];done) | (rw[if_neg (fun hh=>hh.2 h9)];done) | (rw[if_neg (fun hh=>hlt hh.1)];done) | (exfalso;omega) | (exfalso;simp_all;done))⟩) [] 0
 refine Zk (GE.blockN (Zt (Zr ?_)))
 refine Zm rfl (Zd (OD.addI rfl rfl rfl (by first | omega | (simp only[List.length_set,List.length_replicate];omega))) rfl ?_)
 exact Za rfl (Zn (Yg (q+1,(ys).set ((((q:Int)*(rk k:Int))+(q:Int):Int).toNat) (2)) (⟨by omega,by simp only[List.length_set];exact hyl,Ar hy (by unfold itS;by_cases h9:k=9 <;> by_cases hlt:(q:Int)+1<rk k <;> first | (rw[if_pos ⟨hlt,h9⟩];done) | (rw[if_neg (fun hh=>hh.2 h9)];done) | (rw[if_neg (fun hh=>hlt hh.1)];done) | (exfalso;omega) | (exfalso;simp_all;done))⟩) [] 0))
 have hg6e:=hg6
 rw[hg6e]
 replace hg6:=of_decide_eq_false hg6
 iterate 3 refine Yk ?_
 refine Zd (OD.pickF rfl rfl rfl) rfl ?_
 refine Zn (Zt (GC.condF rfl (Zk (GE.blockN (Zt (Zr ?_))))))
 refine Zm rfl (Zd (OD.addI rfl rfl rfl (by first | omega | (simp only[List.length_set,List.length_replicate];omega))) rfl ?_)
 exact Za rfl (Zn (Yg (q+1,(ys).set ((((q:Int)*(rk k:Int))+(q:Int):Int).toNat) (2)) (⟨by omega,by simp only[List.length_set];exact hyl,Ar hy (by unfold itS;by_cases h9:k=9 <;> by_cases hlt:(q:Int)+1<rk k <;> first | (rw[if_pos ⟨hlt,h9⟩];done) | (rw[if_neg (fun hh=>hh.2 h9)];done) | (rw[if_neg (fun hh=>hlt hh.1)];done) | (exfalso;omega) | (exfalso;simp_all;done))⟩) [] 0))
 replace hc5:=of_decide_eq_false hc5
 refine GC.exit (Zp (Zp (GE.hit (Zt (Zs (Zs (Zr ?_)))))))
 refine Zm rfl (Zd (OD.indexStr rfl Z9 rfl rfl (by omega)) rfl ?_)
 refine Zn (Zt (GC.block (Zs (Zr ?_))))
 refine Zd FJ rfl ?_
 refine Za rfl (Zn (Zt ?_))
 refine GC.cond rfl (fun hc8=>?_) (fun hc8=>?_)
 replace hc8:=eq_of_beq hc8
 have hbb:CW (Ap k) 0=66:=by rw[← hse];exact hc8
 have hr2:=fb k hk12 hbb
 have hx2:=Be (n:=(rk k:Int)) (i:=(rk k:Int) - 1) (j:=(rk k:Int) - 2) ⟨by omega,by omega⟩ ⟨by omega,by omega⟩ (by omega)
 refine Zr (Zd (Qf AV) rfl ?_)
 refine Zd (Ql AH 0) rfl ?_
 refine Zm rfl (Zd Qs rfl ?_)
 refine Zm rfl (Zd Qm rfl ?_)
 refine Zm rfl (Zd Qp rfl ?_)
 refine Zd Qs rfl ?_
 refine Zd (Qi Ac (Ei 1)) rfl ?_
 refine G.stepD0 (OD.storeInt rfl Ak rfl rfl (i:=1) rfl (by omega)) rfl rfl ?_
 refine Zn (GE.blockN (Zt (Zs (Zr ?_))))
 refine Zd (Qa An 0 [_,_]) rfl ?_
 refine Yu An [J ((rk k:Int)),v2] 2 (Ad rfl (Ad (Ab.one hs3) rfl)) ?_
 refine Zn (Zt (GC.ret ?_))
 exact GE.body [1] 2 (AZ rfl (RVs.cons (Ag An rfl (i:=2) rfl rfl) RVs.nil) rfl) rfl (⟨v2,rfl,hs3,congrArg (fun l0=>ints 3 v2 l0::own) ((by rw[hy,show q=rk k by omega];exact gB k hk12 hbb:(ys).set ((((((rk k:Int) - 1)*(rk k:Int))+(rk k:Int)) - 2:Int).toNat) (-2)=oneD k))⟩)
 replace hc8:=ne_of_beq_false hc8
 have hc8n:CW (Ap k) 0≠66:=by rw[← hse];exact hc8
 refine Zs (Zr (Zd FJ rfl ?_))
 refine Za rfl (Zn (Zt ?_))
 refine GC.cond rfl (fun hc9=>?_) (fun hc9=>?_)
 replace hc9:=eq_of_beq hc9
 have hbb:CW (Ap k) 0=67:=by rw[← hse];exact hc9
 have hr2:=fJ k hk12 hbb
 have hx2:=Be (n:=(rk k:Int)) (i:=(rk k:Int) - 2) (j:=(rk k:Int) - 1) ⟨by omega,by omega⟩ ⟨by omega,by omega⟩ (by omega)
 refine Zr (Zd (Qf AV) rfl ?_)
 refine Zd (Ql AH 0) rfl ?_
 refine Zm rfl (Zd Qs rfl ?_)
 refine Zm rfl (Zd Qm rfl ?_)
 refine Zm rfl (Zd Qp rfl ?_)
 refine Zd Qs rfl ?_
 refine Zd (Qi Ac (Ei 1)) rfl ?_
 refine G.stepD0 (OD.storeInt rfl Ak rfl rfl (i:=1) rfl (by omega)) rfl rfl ?_
 refine Zn (GE.blockN (Zt (Zs (Zr ?_))))
 refine Zd (Qa An 0 [_,_]) rfl ?_
 refine Yu An [J ((rk k:Int)),v2] 2 (Ad rfl (Ad (Ab.one hs3) rfl)) ?_
 refine Zn (Zt (GC.ret ?_))
 exact GE.body [1] 2 (AZ rfl (RVs.cons (Ag An rfl (i:=2) rfl rfl) RVs.nil) rfl) rfl (⟨v2,rfl,hs3,congrArg (fun l0=>ints 3 v2 l0::own) ((by rw[hy,show q=rk k by omega];exact gx k hk12 hbb:(ys).set ((((((rk k:Int) - 2)*(rk k:Int))+(rk k:Int)) - 1:Int).toNat) (-2)=oneD k))⟩)
 replace hc9:=ne_of_beq_false hc9
 have hc9n:CW (Ap k) 0≠67:=by rw[← hse];exact hc9
 refine Zs (Zr (Zd FJ rfl ?_))
 refine Za rfl (Zn (Zt ?_))
 refine GC.cond rfl (fun hc10=>?_) (fun hc10=>?_)
 replace hc10:=eq_of_beq hc10
 have hbb:CW (Ap k) 0=68:=by rw[← hse];exact hc10
 have hr2:=(dP k hk12 hbb).2
 have hrr:(rk k:Int)*(rk k:Int)=16:=by rw[hr2];rfl
 refine Zs (Zr (Za rfl (Zn (Zt (GC.block ?_)))))
 refine Yl (ι:=Nat × List Int) (fun⟨p,zs⟩=>[(2,Pg g1 0),(3,J ((rk k:Int))),(4,Pg g4 0),(6,J ((p:Int)))]) (fun⟨p,zs⟩=>box g4 27 [J ((rk k:Int)),v2]::ints 3 v2 zs::box g1 27 [J (0),.slice none 0 0]::own) (fun⟨p,zs⟩=>(p≤4)∧((zs.length:Int)=16)∧(zs=(List.range p).foldl (itD k) ys)) (fun⟨p,zs⟩=>4 - p) (0,ys) (⟨by omega,by omega,rfl⟩) [] 0 ?_
 rintro⟨p,zs⟩ ⟨hp,hzl,hz⟩
 refine Zs (Zs (Zr (Zm rfl (Zd Bb rfl ?_))))
 refine Zn (Zt ?_)
 refine GC.cond rfl (fun hc11=>?_) (fun hc11=>?_)
 replace hc11:=of_decide_eq_true hc11
 have hx:=Be (n:=(rk k:Int)) (i:=p) (j:=1) ⟨by omega,by omega⟩ ⟨by omega,by omega⟩ (by omega)
 refine Zk (Zt (Zs (GC.block (Zs (Zr ?_)))))
 refine Zm rfl (Zd EK rfl ?_)
 refine Zn (Zt ?_)
 refine GC.cond rfl (fun hc12=>?_) (fun hc12=>?_)
 replace hc12:=AA hc12
 refine Zs (Zr (Zd (Qf AV) rfl ?_))
 refine Zd (Ql AH 0) rfl ?_
 refine Zm rfl (Zm rfl (Zd Qp rfl ?_))
 refine Zd (Qi Ac (Ei 1)) rfl ?_
 refine G.stepD0 (OD.storeInt rfl Ak rfl rfl (i:=1) rfl (by omega)) rfl rfl ?_
 refine Zn (Zt (Zr (Zd (Qf AV) rfl ?_)))
 refine Zd (Ql AH 0) rfl ?_
 refine Zm rfl (Zm rfl (Zd (OD.mulI rfl rfl rfl (by first | omega | (simp only[List.length_set,List.length_replicate];omega))) rfl ?_))
 refine Zd (OD.addI rfl rfl rfl (by first | omega | (simp only[List.length_set,List.length_replicate];omega))) rfl ?_
 refine Zd (OD.indexAddr rfl Ac rfl (Ei 1) rfl (by first | omega | (simp only[List.length_set,List.length_replicate];omega))) rfl ?_
 refine G.stepD0 (OD.storeInt rfl Ak rfl rfl (i:=1) rfl (by first | omega | (simp only[List.length_set,List.length_replicate];omega))) rfl rfl ?_
 refine Zn (GE.blockN (Zt (Zr ?_)))
 refine Zm rfl (Zd (OD.addI rfl rfl rfl (by first | omega | (simp only[List.length_set,List.length_replicate];omega))) rfl ?_)
 exact Za rfl (Zn (Yg (p+1,((zs).set (((rk k:Int)+(p:Int):Int).toNat) (-1)).set ((((p:Int)*(rk k:Int))+1:Int).toNat) (-1)) (⟨by omega,by first | exact hzl | (simp only[List.length_set];exact hzl),Ar hz (by unfold itD;by_cases h1:(p:Int)=1 <;> first | (rw[if_pos h1];done) | (rw[if_neg (fun h=>h h1)];done) | (exfalso;omega))⟩) [] 0))
 replace hc12:=Al hc12
 refine Zk (GE.blockN (Zt (Zr ?_)))
 refine Zm rfl (Zd Qp rfl ?_)
 exact Za rfl (Zn (Yg (p+1,zs) (⟨by omega,by first | exact hzl | (simp only[List.length_set];exact hzl),Ar hz (by unfold itD;by_cases h1:(p:Int)=1 <;> first | (rw[if_pos h1];done) | (rw[if_neg (fun h=>h h1)];done) | (exfalso;omega))⟩) [] 0))
 replace hc11:=of_decide_eq_false hc11
 refine GC.exit (Zp (Zp (GE.hit (GE.blockN (Zt (Zs (Zr ?_)))))))
 refine Zd (Qa An 0 [_,_]) rfl ?_
 refine Yu An [J ((rk k:Int)),v2] 2 (Ad rfl (Ad (Ab.one hs3) rfl)) ?_
 refine Zn (Zt (GC.ret ?_))
 exact GE.body [1] 2 (AZ rfl (RVs.cons (Ag An rfl (i:=2) rfl rfl) RVs.nil) rfl) rfl (⟨v2,rfl,hs3,congrArg (fun l0=>ints 3 v2 l0::own) ((by rw[hz,show p=4 by omega,hy,show q=rk k by omega];exact(dP k hk12 hbb).1:zs=oneD k))⟩)
 replace hc10:=ne_of_beq_false hc10
 have hc10n:CW (Ap k) 0≠68:=by rw[← hse];exact hc10
 refine Zs (Zr (Zd FJ rfl ?_))
 refine Za rfl (Zn (Zt ?_))
 refine GC.cond rfl (fun hc13=>?_) (fun hc13=>?_)
 replace hc13:=eq_of_beq hc13
 have hbb:CW (Ap k) 0=70:=by rw[← hse];exact hc13
 have hr2:=(dS k hk12 hbb).2
 have hrr:(rk k:Int)*(rk k:Int)=16:=by rw[hr2];rfl
 refine Zr (Zd (Qf AV) rfl ?_)
 refine Zd (Ql AH 0) rfl ?_
 refine Zm rfl (Zd Qm rfl ?_)
 refine Zd Qp rfl ?_
 refine Zd (Qi Ac (Ei 1)) rfl ?_
 refine G.stepD0 (OD.storeInt rfl Ak rfl rfl (i:=1) rfl (by omega)) rfl rfl ?_
 refine Zn (GE.blockN (Zt (Zs (Zr ?_))))
 refine Zd (Qa An 0 [_,_]) rfl ?_
 refine Yu An [J ((rk k:Int)),v2] 2 (Ad rfl (Ad (Ab.one hs3) rfl)) ?_
 refine Zn (Zt (GC.ret ?_))
 exact GE.body [1] 2 (AZ rfl (RVs.cons (Ag An rfl (i:=2) rfl rfl) RVs.nil) rfl) rfl (⟨v2,rfl,hs3,congrArg (fun l0=>ints 3 v2 l0::own) ((by rw[hy,show q=rk k by omega];exact(dS k hk12 hbb).1:(ys).set (((2*(rk k:Int))+1:Int).toNat) (-2)=oneD k))⟩)
 replace hc13:=ne_of_beq_false hc13
 have hc13n:CW (Ap k) 0≠70:=by rw[← hse];exact hc13
 refine Zs (Zr (Zd FJ rfl ?_))
 refine Za rfl (Zn (Zt ?_))
 refine GC.cond rfl (fun hc14=>?_) (fun hc14=>?_)
 replace hc14:=eq_of_beq hc14
 have hbb:CW (Ap k) 0=71:=by rw[← hse];exact hc14
 have hr2:=(fB k hk12 hbb).2
 have hrr:(rk k:Int)*(rk k:Int)=4:=by rw[hr2];rfl
 refine Zr (Zd (Qf AV) rfl ?_)
 refine Zd (Ql AH 0) rfl ?_
 refine Zd (Qi Ac (Ei 1)) rfl ?_
 refine G.stepD0 (OD.storeInt rfl Ak rfl rfl (i:=1) rfl (by omega)) rfl rfl ?_
 refine Zn (GE.blockN (Zt (Zs (Zr ?_))))
 refine Zd (Qa An 0 [_,_]) rfl ?_
 refine Yu An [J ((rk k:Int)),v2] 2 (Ad rfl (Ad (Ab.one hs3) rfl)) ?_
 refine Zn (Zt (GC.ret ?_))
 exact GE.body [1] 2 (AZ rfl (RVs.cons (Ag An rfl (i:=2) rfl rfl) RVs.nil) rfl) rfl (⟨v2,rfl,hs3,congrArg (fun l0=>ints 3 v2 l0::own) ((by rw[hy,show q=rk k by omega];exact(fB k hk12 hbb).1:(ys).set (1) (-3)=oneD k))⟩)
 replace hc14:=ne_of_beq_false hc14
 have hc14n:CW (Ap k) 0≠71:=by rw[← hse];exact hc14
 refine Zk (GE.blockN (Zt (Zs (Zr ?_))))
 refine Zd (Qa An 0 [_,_]) rfl ?_
 refine Yu An [J ((rk k:Int)),v2] 2 (Ad rfl (Ad (Ab.one hs3) rfl)) ?_
 refine Zn (Zt (GC.ret ?_))
 exact GE.body [1] 2 (AZ rfl (RVs.cons (Ag An rfl (i:=2) rfl rfl) RVs.nil) rfl) rfl (⟨v2,rfl,hs3,congrArg (fun l0=>ints 3 v2 l0::own) ((by rw[hy,show q=rk k by omega];exact gD k hk12 ⟨by assumption,by assumption,by assumption,by assumption,by assumption⟩:ys=oneD k))⟩)
theorem VG {W:World}{own:List Asn}{vb:Value}{vs:List Value}{ks:List Nat}(sb:Ab vb)(eb:Ent own fun w=>Sl w vb (D9 ks vs).length 2 (D9 ks vs).flatten)(em:∀ k,k<ks.length→Ent own fun w=>Ints w (vs.getD k undef) (oneD (ks.getD k 0)))(hlen:vs.length=ks.length)(hall:AllS vs)(h12:∀ k∈ks,k<12)(hr4:rkS ks≤4)(hk4:ks.length≤1000000):Spec Tryz.prog 186 [vb] W own (fun v ow=>∃ (r1:Value),v = .agg #[J ((rkS ks:Nat)),r1]∧Ab r1∧ow=ints 3 r1 (Oe ks)::own):=by
 have hrl:=Ol hlen
 refine Spec.enter Tryz.f186 _ Tryz.func186 rfl (n:=79) rfl rfl ?_
 refine Zs (Zr (Yt (OG.alloc rfl An (zs:=[J (0),.slice none 0 0]) rfl) ?_))
 rintro _ _ ⟨g1,rfl,rfl⟩
 refine Zn (Zt (Zs (Zr (Zd (OD.build (idx:=[]) (xs:=[]) (vs:=[]) (cs:=[]) (zs:=[J (0),.slice none 0 0]) (r:=[J (0),.slice none 0 0]) rfl An rfl rfl rfl trivial rfl) rfl ?_))))
 refine Yt (OG.alloc rfl An (zs:=[J (0),.slice none 0 0]) rfl) ?_
 rintro _ _ ⟨g2,rfl,rfl⟩
 refine Yu An [J (0),.slice none 0 0] 0 rfl ?_
 refine Zn (Zt (Zs (Zs (Zr (Zm rfl (Zd (Qn Kf (Ent.drop 2 eb)) rfl ?_))))))
 refine Zm rfl (Zn (Zt (GC.block ?_)))
 refine Yl (ι:=Nat × Int) (fun⟨i,r⟩=>[(0,vb),(2,Pg g1 0),(3,Pg g2 0),(12,vb),(13,J (((D9 ks vs).length:Nat))),(14,J ((i:Int)))]) (fun⟨i,r⟩=>box g2 27 [J (r),.slice none 0 0]::box g1 27 [J (0),.slice none 0 0]::own) (fun⟨i,r⟩=>(i≤ks.length)∧(r=(rkS (ks.take i):Nat))) (fun⟨i,r⟩=>ks.length - i) (0,0) (⟨by omega,by simp[rkS]⟩) [] 0 ?_
 rintro⟨i,r⟩ ⟨hi,hr⟩
 refine Zs (Zr (Zd Bb rfl ?_))
 refine Zn (Zt (Zs ?_))
 refine GC.cond rfl (fun hc3=>?_) (fun hc3=>?_)
 replace hc3:=of_decide_eq_true hc3
 have hrb:=Hc ks i
 have hkb:=Ga (ks.getD i 0) (h12 _ (by simp[List.getD,show i<ks.length by omega]))
 refine Zk (Zt (Zs (GC.block (Zs (Zr ?_)))))
 refine Zd (Qi Kf (Ent.drop 2 eb)) rfl ?_
 refine Zd (OD.loadRws rfl An rfl (Ent.drop 2 eb) (by omega) (Rw _ _) (Oc hlen (by omega))) rfl ?_
 refine Yt (OG.alloc rfl An (zs:=[J (0),.slice none 0 0]) rfl) ?_
 rintro _ _ ⟨g4,rfl,rfl⟩
 refine Yu An [J ((rk (ks.getD (i) 0):Int)),(vs.getD (i) undef)] 0 (Ad rfl (Ad (Ab.one (hall.get (by omega))) rfl)) ?_
 refine Zn (Zt (Zr (Zd (Qf Aq) rfl ?_)))
 refine Zd (Ql Ak 1) rfl ?_
 refine Zd (Qf Aq) rfl ?_
 refine Zd (Ql Ak 0) rfl ?_
 refine Zd Qp rfl ?_
 refine Zd (Qf Aq) rfl ?_
 refine Yu Ak [J (r+(rk (ks.getD (i) 0):Int))] 1 rfl ?_
 refine Zn (GE.blockN (Zt (Zr ?_)))
 refine Zd Qp rfl ?_
 exact Zm rfl (Zn (Yg (i+1,r+(rk (ks.getD (i) 0):Int)) (⟨by omega,by rw[DW (by omega),hr];simp⟩) [1,1] 1))
 replace hc3:=of_decide_eq_false hc3
 have hrN:r=(rkS ks:Nat):=by rw[hr,List.take_of_length_le (by omega)]
 have hN0:0≤r*r:=Int.mul_nonneg (by omega) (by omega)
 have hN1:r*r≤4*4:=Int.mul_le_mul (by omega) (by omega) (by omega) (by omega)
 refine GC.exit (Zp (Zp (GE.hit (Zt (Zs (Zr ?_))))))
 refine Zd (Qf Aq) rfl ?_
 refine Zd (Ql Ak 0) rfl ?_
 refine Zd (Qf Aq) rfl ?_
 refine Zd (Ql Ak 0) rfl ?_
 refine Zd Qm rfl ?_
 refine Yt (OG.makeInts rfl Ac rfl rfl (by omega)) ?_
 rintro v5 _ ⟨hs6,rfl⟩
 refine Zd (Qf AV) rfl ?_
 refine G.stepD0 (OD.store rfl AH rfl rfl (us:=[v5]) (AN (Ab.one hs6)) rfl (Ad (Ab.one hs6) rfl) (i:=1) rfl rfl) rfl rfl ?_
 refine Zn (Zt (Zs (Zr (Za rfl (Zn (Zt (Zs (Zs (Zr (Zm rfl (Zd (Qn Kf (Ent.drop 3 eb)) rfl ?_)))))))))))
 refine Zm rfl (Zn (Zt (GC.block ?_)))
 refine Yl (ι:=Nat × Int × List Int) (fun⟨b,a,ys⟩=>[(2,Pg g1 0),(3,Pg g2 0),(32,vb),(33,J (((D9 ks vs).length:Nat))),(6,J (a)),(34,J ((b:Int)))]) (fun⟨b,a,ys⟩=>ints 3 v5 ys::box g2 27 [J (r),v5]::box g1 27 [J (0),.slice none 0 0]::own) (fun⟨b,a,ys⟩=>(b≤ks.length)∧(a=(rkS (ks.take b):Nat))∧((ys.length:Int)=r*r)∧(ys=(List.range b).foldl (jB ks r) (List.replicate (r*r:Int).toNat 0))) (fun⟨b,a,ys⟩=>ks.length - b) (0,0,List.replicate (r*r:Int).toNat 0) (⟨by omega,by simp[rkS],by rw[List.length_replicate];omega,rfl⟩) [] 0 ?_
 rintro⟨b,a,ys⟩ ⟨hb,ha,hyl,hy⟩
 refine Zs (Zr (Zd Bb rfl ?_))
 refine Zn (Zt (Zs ?_))
 refine GC.cond rfl (fun hc7=>?_) (fun hc7=>?_)
 replace hc7:=of_decide_eq_true hc7
 have hkb:=Ga (ks.getD b 0) (h12 _ (by simp[List.getD,show b<ks.length by omega]))
 have hol:=Nx (ks.getD b 0) (h12 _ (by simp[List.getD,show b<ks.length by omega]))
 have hab0:=Hc ks (b+1)
 rw[DW (by omega)] at hab0
 have hab:a+(rk (ks.getD b 0):Int)≤r:=by omega
 refine Zk (Zt (Zs (GC.block (Zs (Zr ?_)))))
 refine Zd (Qi Kf (Ent.drop 3 eb)) rfl ?_
 refine Zd (OD.loadRws rfl An rfl (Ent.drop 3 eb) (by omega) (Rw _ _) (Oc hlen (by omega))) rfl ?_
 refine Yt (OG.alloc rfl An (zs:=[J (0),.slice none 0 0]) rfl) ?_
 rintro _ _ ⟨g8,rfl,rfl⟩
 refine Yu An [J ((rk (ks.getD (b) 0):Int)),(vs.getD (b) undef)] 0 (Ad rfl (Ad (Ab.one (hall.get (by omega))) rfl)) ?_
 refine Zn (Zt (Zs (Zs (Zr (Zd (Qf Aq) rfl ?_)))))
 refine Zd (Ql Ak 0) rfl ?_
 refine Zm rfl (Zn (Zt (GC.block ?_)))
 refine Yl (ι:=Nat × List Int) (fun⟨i,zs⟩=>[(2,Pg g1 0),(3,Pg g2 0),(32,vb),(33,J (((D9 ks vs).length:Nat))),(6,J (a)),(34,J ((b:Int))),(8,Pg g8 0),(39,J ((rk (ks.getD (b) 0):Int))),(40,J ((i:Int)))]) (fun⟨i,zs⟩=>box g8 27 [J ((rk (ks.getD (b) 0):Int)),(vs.getD (b) undef)]::ints 3 v5 zs::box g2 27 [J (r),v5]::box g1 27 [J (0),.slice none 0 0]::own) (fun⟨i,zs⟩=>(i≤rk (ks.getD (b) 0))∧((zs.length:Int)=r*r)∧(zs=(List.range i).foldl (jI r a (ks.getD (b) 0)) ys)) (fun⟨i,zs⟩=>rk (ks.getD (b) 0) - i) (0,ys) (⟨by omega,hyl,rfl⟩) [] 0 ?_
 rintro⟨i,zs⟩ ⟨hi,hzl,hz⟩
 refine Zs (Zr (Zd Bb rfl ?_))
 refine Zn (Zt (Zs ?_))
 refine GC.cond rfl (fun hc9=>?_) (fun hc9=>?_)
 replace hc9:=of_decide_eq_true hc9
 refine Zk (Zt (Zs (GC.block (Zs (Zr ?_)))))
 refine Zm rfl (Za rfl (Zn (Zt (Zs (Zr (Zd (Qf Aq) rfl ?_))))))
 refine Zd (Ql Ak 0) rfl ?_
 refine Zm rfl (Zn (Zt (GC.block ?_)))
 refine Yl (ι:=Nat × List Int) (fun⟨j,ws⟩=>[(2,Pg g1 0),(3,Pg g2 0),(32,vb),(33,J (((D9 ks vs).length:Nat))),(6,J (a)),(34,J ((b:Int))),(8,Pg g8 0),(39,J ((rk (ks.getD (b) 0):Int))),(40,J ((i:Int))),(9,J ((i:Int))),(44,J ((rk (ks.getD (b) 0):Int))),(45,J ((j:Int)))]) (fun⟨j,ws⟩=>box g8 27 [J ((rk (ks.getD (b) 0):Int)),(vs.getD (b) undef)]::ints 3 v5 ws::box g2 27 [J (r),v5]::box g1 27 [J (0),.slice none 0 0]::own) (fun⟨j,ws⟩=>(j≤rk (ks.getD (b) 0))∧((ws.length:Int)=r*r)∧(ws=(List.range j).foldl (fun(o:List Int) (j:Nat)=>o.set ((a+(i:Int))*r+a+(j:Int)).toNat ((oneD (ks.getD (b) 0)).getD ((i:Int)*(rk (ks.getD (b) 0):Int)+(j:Int)).toNat 0)) zs)) (fun⟨j,ws⟩=>rk (ks.getD (b) 0) - j) (0,zs) (⟨by omega,hzl,rfl⟩) [] 0 ?_
 rintro⟨j,ws⟩ ⟨hj,hwl,hw⟩
 refine Zs (Zr (Zd Bb rfl ?_))
 refine Zn (Zt (Zs ?_))
 refine GC.cond rfl (fun hc10=>?_) (fun hc10=>?_)
 replace hc10:=of_decide_eq_true hc10
 have hx:=Be (n:=r) (i:=a+(i:Int)) (j:=a+(j:Int)) ⟨by omega,by omega⟩ ⟨by omega,by omega⟩ (by omega)
 have hx2:=Be (n:=(rk (ks.getD b 0):Int)) (i:=(i:Int)) (j:=(j:Int)) ⟨by omega,by omega⟩ ⟨by omega,by omega⟩ (by omega)
 have hol2:((oneD (ks.getD b 0)).length:Int)=(rk (ks.getD b 0):Int)*(rk (ks.getD b 0):Int):=by rw[hol];exact Int.natCast_mul _ _
 refine Zk (Zt (Zs (GC.block (Zs (Zr ?_)))))
 refine Zm rfl (Za rfl (Zn (Zt (Ya [(2,_),(3,_),(32,_),(33,_),(6,_),(34,_),(8,_),(39,_),(40,_),(9,_),(44,_),(45,_),(10,_)] ?_))))
 refine Wp [Z0 48 (Pg g2 1),Z1 49 [(0,48)] v5,Z0 50 (J (a)),Z0 51 (J ((i:Int))),Z1 52 [(2,50),(3,51)] (J (a+(i:Int))),Z0 53 (Pg g2 0),Z1 54 [(5,53)] (J (r)),Z1 55 [(4,52),(6,54)] (J ((a+(i:Int))*r)),Z0 56 (J (a)),Z1 57 [(7,55),(8,56)] (J (((a+(i:Int))*r)+a)),Z0 58 (J ((j:Int))),Z1 59 [(9,57),(10,58)] (J ((((a+(i:Int))*r)+a)+(j:Int))),Z0 60 (Pg g8 1),Z1 61 [(12,60)] ((vs.getD (b) undef)),Z0 62 (J ((i:Int))),Z0 63 (Pg g8 0),Z1 64 [(15,63)] (J ((rk (ks.getD (b) 0):Int))),Z1 65 [(14,62),(16,64)] (J ((i:Int)*(rk (ks.getD (b) 0):Int))),Z0 66 (J ((j:Int))),Z1 67 [(17,65),(18,66)] (J (((i:Int)*(rk (ks.getD (b) 0):Int))+(j:Int))),Z1 68 [(13,61),(19,67)] (Aa ((vs.getD (b) undef)) 1 ((((i:Int)*(rk (ks.getD (b) 0):Int))+(j:Int):Int).toNat)),Z1 69 [(20,68)] (J ((oneD (ks.getD (b) 0)).getD ((((i:Int)*(rk (ks.getD (b) 0):Int))+(j:Int):Int).toNat) 0)),Z1 70 [(1,49),(11,59)] (Aa v5 1 (((((a+(i:Int))*r)+a)+(j:Int):Int).toNat))] (Zc (fun _ _ _=>Zq (Qf AV) rfl) (Zc (fun _ _ _=>Zq (Ql AH 2) rfl) (Yv (Yv (Zc (fun _ _ _=>Zq Qp rfl) (Zc (fun _ _ _=>Zq (Qf Aq) rfl) (Zc (fun _ _ _=>Zq (Ql Ak 2) rfl) (Zc (fun _ _ _=>Zq Qm rfl) (Yv (Zc (fun _ _ _=>Zq Qp rfl) (Yv (Zc (fun _ _ _=>Zq Qp rfl) (Zc (fun _ _ _=>Zq (Qf AV) rfl) (Zc (fun _ _ _=>Zq (Ql AH 0) rfl) (Yv (Zc (fun _ _ _=>Zq (Qf Aq) rfl) (Zc (fun _ _ _=>Zq (Ql Ak 0) rfl) (Zc (fun _ _ _=>Zq Qm rfl) (Yv (Zc (fun _ _ _=>Zq Qp rfl) (Zc (fun _ _ _=>Zq (OD.indexAddr rfl Ac rfl (Ent.drop 4 ((em (b) (by omega)).app)) rfl (by omega)) rfl) (Zc (fun _ _ _=>Zq (OD.loadInt rfl Ak rfl (Ent.drop 4 ((em (b) (by omega)).app)) (by omega)) rfl) (Zc (fun _ _ _=>Zq (Qi Ac (Ei 1)) rfl) As.nil))))))))))))))))))))))) ?_
 intro θ _
 refine Yb [(2,_),(3,_),(32,_),(33,_),(6,_),(34,_),(8,_),(39,_),(40,_),(9,_),(44,_),(45,_),(69,J ((oneD (ks.getD (b) 0)).getD ((((i:Int)*(rk (ks.getD (b) 0):Int))+(j:Int):Int).toNat) 0)),(70,Aa v5 1 (((((a+(i:Int))*r)+a)+(j:Int):Int).toNat))] (_::_) ?_
 show G _ _ _ [_] _ _ _ _
 refine G.stepD0 (OD.storeInt rfl Ak rfl rfl (i:=1) rfl (by omega)) rfl rfl ?_
 refine Zn (GE.blockN (Zt (Zr ?_)))
 refine Zd (OD.addI rfl rfl rfl (by first | omega | (simp only[List.length_set,List.length_replicate];omega))) rfl ?_
 exact Zm rfl (Zn (Yg (j+1,(ws).set (((((a+(i:Int))*r)+a)+(j:Int):Int).toNat) ((oneD (ks.getD (b) 0)).getD ((((i:Int)*(rk (ks.getD (b) 0):Int))+(j:Int):Int).toNat) 0)) (⟨by omega,by rw[List.length_set];exact hwl,Ar hw rfl⟩) [] 0))
 replace hc10:=of_decide_eq_false hc10
 refine GC.exit (Zp (Zp (GE.hit (GE.blockN (Zt (Zr ?_))))))
 refine Zd Qp rfl ?_
 exact Zm rfl (Zn (Yg (i+1,ws) (⟨by omega,hwl,Ar hz (by rw[hw,show j=rk (ks.getD b 0) by omega];rfl)⟩) [] 0))
 replace hc9:=of_decide_eq_false hc9
 refine GC.exit (Zp (Zp (GE.hit (Zt (Zr ?_)))))
 refine Zm rfl (Zd (Qf Aq) rfl ?_)
 refine Zd (Ql Ak 0) rfl ?_
 refine Zd Qp rfl ?_
 refine Za rfl (Zn (GE.blockN (Zt (Zr ?_))))
 refine Zd Qp rfl ?_
 exact Zm rfl (Zn (Yg (b+1,a+(rk (ks.getD (b) 0):Int),zs) (⟨by omega,by rw[DW (by omega),ha];simp,hzl,Ar hy (by rw[hz,show i=rk (ks.getD b 0) by omega,ha];rfl)⟩) [1,1,1] 1))
 replace hc7:=of_decide_eq_false hc7
 refine GC.exit (Zp (Zp (GE.hit (Zt (Zs (Zr ?_))))))
 refine Zd (Qa An 1 [_,_]) rfl ?_
 refine Yu An [J (r),v5] 2 (Ad rfl (Ad (Ab.one hs6) rfl)) ?_
 refine Zn (Zt (GC.ret ?_))
 exact GE.body [0] 2 (AZ rfl (RVs.cons (Ag An rfl (i:=2) rfl rfl) RVs.nil) rfl) rfl (⟨v5,congrArg (fun a0=>(.agg #[J (a0),v5]:Value)) ((hrN:(r:Int)=(rkS ks:Nat))),hs6,congrArg (fun l0=>ints 3 v5 l0::own) ((by rw[hy,show b=ks.length by omega,hrN];rfl:ys=Oe ks))⟩)
theorem Pz {W:World}{own:List Asn}{s:ByteArray}(hg:Ent own fun w=>∃ m,w.cell? ⟨Tryz.l146_ren.g 1,0,none⟩=some (.int .i64 m))(hs:s.size≤1048576):Spec Tryz.prog 157 [.string (s)] W own (fun v ow=>∃ (r1:Value),v = .tuple #[.agg #[J (cR s),r1],.bool ((cF s).isSome)]∧Ab r1∧ow=ints 3 r1 (cD s)::own):=by
 have hps:=MJ s
 refine Spec.enter Tryz.f157 _ Tryz.func157 rfl (n:=42) rfl rfl ?_
 refine Zs (Zr (Yt (OG.alloc rfl An (zs:=[J (0),.slice none 0 0]) rfl) ?_))
 rintro _ _ ⟨g1,rfl,rfl⟩
 refine Za rfl (Zn (Zt (Zs (Zr (Zm rfl (Yt (Yc [.string (s),.string (⟨#[43]⟩)] bU (by exact(YG _ ((Ent.drop 1 hg)) (by omega)))) ?_))))))
 rintro v2 _ ⟨_,rfl,hs3,rfl⟩
 refine Za rfl (Zn (Zt (Zs (Zr (Yt (OG.buildRws0 rfl Kf) ?_)))))
 rintro v4 _ ⟨hs5,rfl⟩
 refine Za rfl (Zn (Zt (Zs (Zr (Za rfl (Zn (Zt (Zs (Zs (Zr (Zm rfl (Zd (Qn Bk (Ent.strs (i:=1) rfl)) rfl ?_))))))))))))
 refine Zm rfl (Zn (Zt (GC.block ?_)))
 refine GC.many0 (ints 3) ?_
 refine Yl (ι:=Nat × List Nat × List Value × Value × Int) (fun⟨i,ks,vs,bv,r⟩=>[(2,Pg g1 0),(14,v2),(15,J (((Ae s).length:Nat))),(5,bv),(6,J (r)),(16,J ((i:Int)))]) (fun⟨i,ks,vs,bv,r⟩=>many (ints 3) vs (ks.map oneD)::rws 27 2 bv (D9 ks vs)::strs 9 v2 (Ae s)::box g1 27 [J (0),.slice none 0 0]::own) (fun⟨i,ks,vs,bv,r⟩=>(i≤(Ae s).length)∧(S4 s i ks)∧(ks.length=i)∧(vs.length=ks.length)∧(AllS vs)∧(Ab bv)∧(r=(rkS ks:Nat))) (fun⟨i,ks,vs,bv,r⟩=>(Ae s).length - i) (0,[],[],v4,0) (⟨by omega,rfl,rfl,rfl,AllS.nil,hs5,rfl⟩) [] 0 ?_
 rintro⟨i,ks,vs,bv,r⟩ ⟨hi,hc,hki,hlen,hall,hbv,hr⟩
 refine Zs (Zr (Zd Bb rfl ?_))
 refine Zn (Zt (Zs ?_))
 refine GC.cond rfl (fun hc6=>?_) (fun hc6=>?_)
 replace hc6:=of_decide_eq_true hc6
 have hle4:=aY hc.lt
 refine Zk (Zt (Zs (GC.block (Zs (Zr ?_)))))
 refine Zd (Qi Bk (Ent.strs (i:=2) rfl)) rfl ?_
 refine Zd (OD.loadStr rfl af rfl (Ent.strs (i:=2) rfl) (by omega)) rfl ?_
 refine Za rfl (Zn (Zt (Zs (Zr (Zm rfl (Yt (Yc [.string ((Ae s).getD (i) ⟨#[]⟩)] bb (by exact M4)) ?_))))))
 rintro _ _ ⟨v7,rfl,hs8,rfl⟩
 refine Zm rfl (Zd (OD.extract rfl rfl rfl) rfl ?_)
 refine Zd (OD.extract rfl rfl rfl) rfl ?_
 refine Yt (OG.alloc rfl An (zs:=[J (0),.slice none 0 0]) rfl) ?_
 rintro _ _ ⟨g9,rfl,rfl⟩
 refine Yu An [J (BI ((Ae s).getD (i) ⟨#[]⟩)),v7] 0 (Ad rfl (Ad (Ab.one hs8) rfl)) ?_
 refine Za rfl (Zn (Zt (Zs (Zs (Zr (Zm rfl (Zd (OD.not rfl rfl) rfl ?_)))))))
 refine Zn (Zt ?_)
 refine GC.cond rfl (fun hc10=>?_) (fun hc10=>?_)
 replace hc10:=Ai hc10
 obtain⟨hp1,hp2,hp3⟩:=P3 (hc.bad (by omega) (Xy hc10))
 refine Zs (Zr (Zd (OD.build (idx:=[]) (xs:=[]) (vs:=[]) (cs:=[]) (zs:=[J (0),.slice none 0 0]) (r:=[J (0),.slice none 0 0]) rfl An rfl rfl rfl trivial rfl) rfl ?_))
 refine Yu An [J (0),.slice none 0 0] 5 rfl ?_
 refine Za rfl (Zn (Zt (GC.ret (GE.passR (GE.blockR (GE.passR (GE.passR (GE.blockR (GE.passR ?_)))))))))
 refine GE.nilInts 3 ?_
 exact GE.body [0] 6 (AZ rfl (RVs.cons (Ag An rfl (i:=6) rfl rfl) (RVs.cons (AD rfl) RVs.nil)) rfl) rfl (⟨(.slice none 0 0),congr (congrArg (fun a0 a2=>(.tuple #[.agg #[J (a0),(.slice none 0 0)],.bool (a2)]:Value)) ((hp1.symm:(0:Int)=cR s))) ((hp3.symm:(false:Bool)=(cF s).isSome)),Ab.nil,congrArg (fun l0=>ints 3 (.slice none 0 0) l0::own) ((hp2.symm : []=cD s))⟩)
 replace hc10:=Am hc10
 obtain⟨k,hk⟩:=XX hc10
 obtain⟨hk12,hse⟩:=EW hk
 have hrk:=Ga k hk12
 have hpR:BI ((Ae s).getD (i) ⟨#[]⟩)=(rk k:Nat):=by simp only[BI,hk]
 have hpD:Dt ((Ae s).getD (i) ⟨#[]⟩)=oneD k:=by simp only[Dt,hk]
 have hrl:=Ol hlen
 refine Zk (Zt (Zs (Zr (Zm rfl (Zd (Qf Aq) rfl ?_)))))
 refine Zd (Ql Ak 0) rfl ?_
 refine Zd Qp rfl ?_
 refine Za rfl (Zn (Zt (Zr (Zm rfl (Zd (Qa An 0 [_,_]) rfl ?_)))))
 refine Yt (OG.buildRws rfl Kf (us:=[J (BI ((Ae s).getD (i) ⟨#[]⟩)),v7]) rfl rfl rfl rfl) ?_
 rintro v11 _ ⟨hs12,rfl⟩
 refine Yt (OG.appendRws 4 rfl rfl Kf rfl rfl rfl (Ent.rws (i:=0) rfl) (Ad rfl (Ad (Ab.one hs8) rfl)) (by simp[maxLen] <;> omega)) ?_
 rintro v13 _ ⟨hs14,rfl⟩
 refine Za rfl (Zn (GE.blockN (Zt (Zr ?_))))
 refine Zd Qp rfl ?_
 refine Zm rfl (Zn ?_)
 refine GE.at [2,2,2,1,1,1] 1 (env':=[(2,Pg g1 0),(14,v2),(15,J (((Ae s).length:Nat))),(17,.bool (decide ((i:Int)<((Ae s).length:Nat)))),(18,Aa v2 1 (i)),(19,.string ((Ae s).getD (i) ⟨#[]⟩)),(8,.string ((Ae s).getD (i) ⟨#[]⟩)),(21,.string ((Ae s).getD (i) ⟨#[]⟩)),(22,.tuple #[.agg #[J (BI ((Ae s).getD (i) ⟨#[]⟩)),v7],.bool ((nameNo ((Ae s).getD (i) ⟨#[]⟩)).isSome)]),(20,.tuple #[.agg #[J (BI ((Ae s).getD (i) ⟨#[]⟩)),v7],.bool ((nameNo ((Ae s).getD (i) ⟨#[]⟩)).isSome)]),(23,.agg #[J (BI ((Ae s).getD (i) ⟨#[]⟩)),v7]),(24,.bool ((nameNo ((Ae s).getD (i) ⟨#[]⟩)).isSome)),(9,Pg g9 0),(10,.bool ((nameNo ((Ae s).getD (i) ⟨#[]⟩)).isSome)),(25,.bool ((nameNo ((Ae s).getD (i) ⟨#[]⟩)).isSome)),(26,.bool (!((nameNo ((Ae s).getD (i) ⟨#[]⟩)).isSome))),(28,J (r)),(29,Pg g9 0),(30,J (BI ((Ae s).getD (i) ⟨#[]⟩))),(31,J (r+(BI ((Ae s).getD (i) ⟨#[]⟩)))),(6,J (r+(BI ((Ae s).getD (i) ⟨#[]⟩)))),(32,bv),(33,.agg #[J (BI ((Ae s).getD (i) ⟨#[]⟩)),v7]),(34,v11),(35,v13),(5,v13),(36,J ((i:Int)+1)),(16,J ((i:Int)+1))]) ⟨rfl,rfl,rfl,rfl,rfl,rfl,rfl,rfl,rfl,rfl,rfl,rfl,rfl,rfl,rfl,rfl,rfl,rfl,rfl,rfl,rfl,rfl,rfl,rfl,rfl,rfl,rfl,rfl,trivial⟩ (own':=ints 3 v7 (Dt ((Ae s).getD (i) ⟨#[]⟩))::many (ints 3) vs (ks.map oneD)::rws 27 2 v13 ((D9 ks vs)++[[J (BI ((Ae s).getD (i) ⟨#[]⟩)),v7]])::box g9 27 [J (BI ((Ae s).getD (i) ⟨#[]⟩)),v7]::strs 9 v2 (Ae s)::box g1 27 [J (0),.slice none 0 0]::own) rfl ?_
 refine GE.manyPush (by simp[hlen]) ?_
 refine GE.ownEq (own':=many (ints 3) (vs++[v7]) ((ks++[k]).map oneD)::rws 27 2 v13 (D9 (ks++[k]) (vs++[v7]))::box g9 27 [J (BI ((Ae s).getD (i) ⟨#[]⟩)),v7]::strs 9 v2 (Ae s)::box g1 27 [J (0),.slice none 0 0]::own) (by rw[SR hlen hpR,hpD,List.map_append];rfl) ?_
 exact Yg (i+1,ks++[k],vs++[v7],v13,r+(BI ((Ae s).getD (i) ⟨#[]⟩))) (⟨by omega,hc.next (by omega) hk,by simp[hki],by simp[hlen],hall.snoc hs8,hs14,by rw[Kn,hr,hpR];simp⟩) [0,0,1,1] 1
 replace hc6:=of_decide_eq_false hc6
 have hst:=hc.stop (by omega)
 refine GC.exit (Zp (Zp (GE.hit (Zt (Zs (Zs (Zr ?_)))))))
 refine Zm rfl (Zd (OD.gtr rfl rfl rfl) rfl ?_)
 refine Zn (Zt ?_)
 refine GC.cond rfl (fun hc15=>?_) (fun hc15=>?_)
 replace hc15:=of_decide_eq_true hc15
 obtain⟨hp1,hp2,hp3⟩:=P3 (hst.trans (if_pos (by omega)))
 refine Zs (Zr (Zd (OD.build (idx:=[]) (xs:=[]) (vs:=[]) (cs:=[]) (zs:=[J (0),.slice none 0 0]) (r:=[J (0),.slice none 0 0]) rfl An rfl rfl rfl trivial rfl) rfl ?_))
 refine Yu An [J (0),.slice none 0 0] 3 rfl ?_
 refine Za rfl (Zn (Zt (GC.ret (GE.passR ?_))))
 refine GE.nilInts 3 ?_
 exact GE.body [0] 4 (AZ rfl (RVs.cons (Ag An rfl (i:=4) rfl rfl) (RVs.cons (AD rfl) RVs.nil)) rfl) rfl (⟨(.slice none 0 0),congr (congrArg (fun a0 a2=>(.tuple #[.agg #[J (a0),(.slice none 0 0)],.bool (a2)]:Value)) ((hp1.symm:(0:Int)=cR s))) ((hp3.symm:(false:Bool)=(cF s).isSome)),Ab.nil,congrArg (fun l0=>ints 3 (.slice none 0 0) l0::own) ((hp2.symm : []=cD s))⟩)
 replace hc15:=of_decide_eq_false hc15
 obtain⟨hp1,hp2,hp3⟩:=Rh (hst.trans (if_neg (by omega)))
 have h12:=hc.lt
 have hr4:rkS ks≤4:=by omega
 have hjm:=Sv h12 hr4
 have hge:=Nc h12
 refine Zk (Zt (Zs (Zr (Zm rfl (Yt (Yc [bv] cL (by exact(VG hbv (Ent.rws (i:=1) rfl) (fun k hk=>by have h:=Ent.manyInts (own:=many (ints 3) vs (ks.map oneD)::rws 27 2 bv (D9 ks vs)::strs 9 v2 (Ae s)::box g1 27 [J (0),.slice none 0 0]::own) (i:=0) (k:=k) rfl ⟨by omega,by simpa using hk⟩;simpa [List.getD,hk] using h) hlen hall (h12) (hr4) (by omega)))) ?_)))))
 rintro _ _ ⟨v16,rfl,hs17,rfl⟩
 refine Yu An [J ((rkS ks:Nat)),v16] 4 (Ad rfl (Ad (Ab.one hs17) rfl)) ?_
 refine Za rfl (Zn (Zt (GC.ret ?_)))
 exact GE.body [0] 4 (AZ rfl (RVs.cons (Ag An rfl (i:=4) rfl rfl) (RVs.cons (AD rfl) RVs.nil)) rfl) rfl (⟨v16,congr (congrArg (fun a0 a2=>(.tuple #[.agg #[J (a0),v16],.bool (a2)]:Value)) ((hp1.symm:((rkS ks:Nat):Int)=cR s))) ((hp3.symm:(true:Bool)=(cF s).isSome)),hs17,congrArg (fun l0=>ints 3 v16 l0::own) ((hjm.trans hp2.symm:Oe ks=cD s))⟩)
theorem Tp {W:World}{own:List Asn}{vx:Value}{x:List Int}{q:Int}(sx:Ab vx)(ex:Ent own fun w=>Ints w vx x)(hq:0≤q∧q≤1048576)(hl:x.length≤9223372036854775807):Spec Tryz.prog 36 [vx,J (q)] W own (fun v ow=>v=J (VM x.length q)∧ow=own):=by
 refine Spec.enter Tryz.f36 _ Tryz.func36 rfl (n:=12) rfl rfl ?_
 refine Zs (Zr (Za rfl (Zn (Zt (Zs (Zr (Zm rfl (Zm rfl (Zd (Qn Ac ex) rfl ?_)))))))))
 refine Zd Qs rfl ?_
 refine Za rfl (Zn (Zt (Zs (Zs (Zr (Zm rfl (Zd Bb rfl ?_)))))))
 refine Zn (Zt ?_)
 refine GC.cond rfl (fun hc1=>?_) (fun hc1=>?_)
 replace hc1:=of_decide_eq_true hc1
 refine Zs (Zr (Za rfl (Zn (Zt (GC.ret (GE.passR ?_))))))
 exact GE.body [] 0 (Ao rfl rfl) rfl (⟨congrArg (fun a0=>(J (a0):Value)) (((if_pos (by omega)).symm:(-1:Int)=VM x.length q)),rfl⟩)
 replace hc1:=of_decide_eq_false hc1
 refine Zk (Zt (Zs (Zr (Zm rfl (Za rfl (Zn (Zt (GC.ret ?_))))))))
 exact GE.body [] 0 (Ao rfl rfl) rfl (⟨congrArg (fun a0=>(J (a0):Value)) (((if_neg (by omega)).symm:(q - (x.length:Nat):Int)=VM x.length q)),rfl⟩)
theorem Vf {W:World}{own:List Asn}{vx:Value}{x:List Int}(sx:Ab vx)(ex:Ent own fun w=>Ints w vx x)(hl:x.length≤1073741824):Spec Tryz.prog 11 [vx] W own (fun v ow=>∃ (r0:Value),v=r0∧Ab r0∧ow=ints 3 r0 x::own):=by
 refine Spec.enter Tryz.f11 _ Tryz.func11 rfl (n:=22) rfl rfl ?_
 refine Zs (Zr (Za rfl (Zn (Zt (Zs (Zr (Zm rfl (Zd (Qn Ac ex) rfl ?_))))))))
 refine Yt (OG.makeInts rfl Ac rfl rfl (by omega)) ?_
 rintro v1 _ ⟨hs2,rfl⟩
 refine Za rfl (Zn (Zt (Zs (Zs (Zr (Za rfl (Zn (Zt (GC.block ?_)))))))))
 refine Yl (ι:=Nat × List Int) (fun⟨k,ys⟩=>[(0,vx),(3,v1),(4,J ((k:Int)))]) (fun⟨k,ys⟩=>ints 3 v1 ys::own) (fun⟨k,ys⟩=>(k≤x.length)∧(ys.length=x.length)∧(ys=x.take k++List.replicate (x.length - k) 0)) (fun⟨k,ys⟩=>x.length - k) (0,List.replicate x.length 0) (⟨by omega,by simp,by simp⟩) [] 0 ?_
 rintro⟨k,ys⟩ ⟨hk,hy,ht⟩
 refine Zs (Zs (Zr (Zm rfl (Zm rfl (Zd (Qn Ac (Ent.drop 1 ex)) rfl ?_)))))
 refine Zd Bb rfl ?_
 refine Zn (Zt ?_)
 refine GC.cond rfl (fun hc3=>?_) (fun hc3=>?_)
 replace hc3:=of_decide_eq_true hc3
 refine Zk (Zt (Zs (GC.block (Zr ?_))))
 refine Zm rfl (Zm rfl (Zm rfl (Zm rfl (Zd (Qi Ac (Ent.drop 1 ex)) rfl ?_))))
 refine Zd (Qv Ak (Ent.drop 1 ex)) rfl ?_
 refine Zd (Qi Ac (Ei 0)) rfl ?_
 refine G.stepD0 (OD.storeInt rfl Ak rfl rfl (i:=0) rfl (by omega)) rfl rfl ?_
 refine Zn (GE.blockN (Zt (Zr ?_)))
 refine Zm rfl (Zd (OD.addI rfl rfl rfl (by first | omega | (simp only[List.length_set,List.length_replicate];omega))) rfl ?_)
 exact Za rfl (Zn (Yg (k+1,ys.set k (x.getD k 0)) (⟨by omega,by simp[hy],by subst ht;exact Ln (by omega)⟩) [] 0))
 replace hc3:=of_decide_eq_false hc3
 refine GC.exit (Zp (Zp (GE.hit (Zt (Zs (Zr ?_))))))
 refine Zm rfl (Za rfl (Zn (Zt (GC.ret ?_))))
 exact GE.body [] 0 (Ao rfl rfl) rfl (⟨v1,rfl,hs2,congrArg (fun l0=>ints 3 v1 l0::own) ((by rw[ht,List.take_of_length_le (by omega)];simp;omega:ys=x))⟩)
theorem Hh {W:World}{own:List Asn}{vx:Value}{x:List Int}{vy:Value}(sx:Ab vx)(ex:Ent own fun w=>Ints w vx x)(sy:Ab vy)(ey:Ent own fun w=>Ints w vy x)(hl:x.length≤9223372036854775807):Spec Tryz.prog 14 [vx,vy] W own (fun v ow=>v = .bool (true)∧ow=own):=by
 refine Spec.enter Tryz.f14 _ Tryz.func14 rfl (n:=26) rfl rfl ?_
 refine Zs (Zr (Za rfl (Zn (Zt (Zs (Zs (Zr (Zm rfl (Zd (Qn Ac ex) rfl ?_)))))))))
 refine Zm rfl (Zd (Qn Ac ey) rfl ?_)
 refine Zd (OD.eqv EK (congrArg Value.bool ((CE _):_=false))) rfl ?_
 refine Zn (Zt (GC.condF rfl (Zk (Zt (Zs (Zs (Zr ?_)))))))
 refine Za rfl (Zn (Zt (GC.block ?_)))
 refine Yl (ι:=Nat) (fun k=>[(0,vx),(1,vy),(5,J ((k:Int)))]) (fun k=>own) (fun k=>(k≤x.length)) (fun k=>x.length - k) 0 (by omega) [] 0 ?_
 rintro k hk
 refine Zs (Zs (Zr (Zm rfl (Zm rfl (Zd (Qn Ac ex) rfl ?_)))))
 refine Zd Bb rfl ?_
 refine Zn (Zt ?_)
 refine GC.cond rfl (fun hc1=>?_) (fun hc1=>?_)
 replace hc1:=of_decide_eq_true hc1
 refine Zk (Zt (Zs (GC.block (Zs ?_))))
 refine Ya [(0,_),(1,_),(5,_)] ?_
 refine Wp [Z0 17 vx,Z0 18 (J ((k:Int))),Z1 19 [(0,17),(1,18)] (Aa vx 1 (k)),Z1 20 [(2,19)] (J (x.getD (k) 0)),Z0 21 vy,Z0 22 (J ((k:Int))),Z1 23 [(4,21),(5,22)] (Aa vy 1 (k)),Z1 24 [(6,23)] (J (x.getD (k) 0)),Z1 25 [(3,20),(7,24)] (.bool false)] (Yv (Yv (Zc (fun _ _ _=>Zq (Qi Ac (ex.app)) rfl) (Zc (fun _ _ _=>Zq (Qv Ak (ex.app)) rfl) (Yv (Yv (Zc (fun _ _ _=>Zq (Qi Ac (ey.app)) rfl) (Zc (fun _ _ _=>Zq (Qv Ak (ey.app)) rfl) (Zc (fun _ _ _=>Zq (OD.eqv EK (congrArg Value.bool ((CE _):_=false))) rfl) As.nil))))))))) ?_
 intro θ _
 refine Yb [(0,_),(1,_),(5,_),(25,.bool false)] (own) ?_
 show G _ _ _ [] _ _ _ _
 refine Zn (Zt (GC.condF rfl (Zk (GE.blockN (Zt (Zr ?_))))))
 refine Zm rfl (Zd Qp rfl ?_)
 exact Za rfl (Zn (Yg (k+1) (by omega) [] 0))
 replace hc1:=of_decide_eq_false hc1
 refine GC.exit (Zp (Zp (GE.hit (Zt (Zs (Zr ?_))))))
 refine Za rfl (Zn (Zt (GC.ret ?_)))
 exact GE.body [] 0 (Ao rfl rfl) rfl (⟨rfl,rfl⟩)
theorem F9 {W:World}{own:List Asn}{vx:Value}{x:List Int}{vy:Value}{y:List Int}(sx:Ab vx)(ex:Ent own fun w=>Ints w vx x)(sy:Ab vy)(ey:Ent own fun w=>Ints w vy y)(hl:x.length≤9223372036854775807):Spec Tryz.prog 126 [vx,vy] W own (fun v ow=>v = .bool (Cu x y)∧ow=own):=by
 refine Spec.enter Tryz.f126 _ Tryz.func126 rfl (n:=26) rfl rfl ?_
 refine Zs (Zr (Za rfl (Zn (Zt (Zs (Zs (Zr (Zm rfl (Zd (Qn Ac ex) rfl ?_)))))))))
 refine Zm rfl (Zd (Qn Ac ey) rfl ?_)
 refine Zd EK rfl ?_
 refine Zn (Zt ?_)
 refine GC.cond rfl (fun hc1=>?_) (fun hc1=>?_)
 replace hc1:=AA hc1
 refine Zs (Zr (Za rfl (Zn (Zt (GC.ret (GE.passR ?_))))))
 exact GE.body [] 0 (Ao rfl rfl) rfl (⟨congrArg (fun a0=>(.bool (a0):Value)) (((Gz fun h=>(by assumption:(x.length:Int)≠y.length) (by rw[h])).symm:(false:Bool)=Cu x y)),rfl⟩)
 replace hc1:=Al hc1
 refine Zk (Zt (Zs (Zs (Zr (Za rfl (Zn (Zt (GC.block ?_))))))))
 refine Yl (ι:=Nat) (fun k=>[(0,vx),(1,vy),(5,J ((k:Int)))]) (fun k=>own) (fun k=>(k≤x.length)∧(x.take k=y.take k)) (fun k=>x.length - k) 0 (⟨by omega,rfl⟩) [] 0 ?_
 rintro k ⟨hk,ht⟩
 refine Zs (Zs (Zr (Zm rfl (Zm rfl (Zd (Qn Ac ex) rfl ?_)))))
 refine Zd Bb rfl ?_
 refine Zn (Zt ?_)
 refine GC.cond rfl (fun hc2=>?_) (fun hc2=>?_)
 replace hc2:=of_decide_eq_true hc2
 refine Zk (Zt (Zs (GC.block (Zs ?_))))
 refine Ya [(0,_),(1,_),(5,_)] ?_
 refine Wp [Z0 17 vx,Z0 18 (J ((k:Int))),Z1 19 [(0,17),(1,18)] (Aa vx 1 (k)),Z1 20 [(2,19)] (J (x.getD (k) 0)),Z0 21 vy,Z0 22 (J ((k:Int))),Z1 23 [(4,21),(5,22)] (Aa vy 1 (k)),Z1 24 [(6,23)] (J (y.getD (k) 0)),Z1 25 [(3,20),(7,24)] (.bool ((x.getD (k) 0) != (y.getD (k) 0)))] (Yv (Yv (Zc (fun _ _ _=>Zq (Qi Ac (ex.app)) rfl) (Zc (fun _ _ _=>Zq (Qv Ak (ex.app)) rfl) (Yv (Yv (Zc (fun _ _ _=>Zq (Qi Ac (ey.app)) rfl) (Zc (fun _ _ _=>Zq (Qv Ak (ey.app)) rfl) (Zc (fun _ _ _=>Zq EK rfl) As.nil))))))))) ?_
 intro θ _
 refine Yb [(0,_),(1,_),(5,_),(25,.bool ((x.getD (k) 0) != (y.getD (k) 0)))] (own) ?_
 show G _ _ _ [] _ _ _ _
 refine Zn (Zt ?_)
 refine GC.cond rfl (fun hc3=>?_) (fun hc3=>?_)
 replace hc3:=AA hc3
 refine Zs (Zr (Za rfl (Zn (Zt (GC.ret (GE.blockR (GE.passR (GE.passR (GE.blockR (GE.passR ?_))))))))))
 exact GE.body [] 0 (Ao rfl rfl) rfl (⟨congrArg (fun a0=>(.bool (a0):Value)) (((Gz (RE (by assumption))).symm:(false:Bool)=Cu x y)),rfl⟩)
 replace hc3:=Al hc3
 refine Zk (GE.blockN (Zt (Zr ?_)))
 refine Zm rfl (Zd Qp rfl ?_)
 exact Za rfl (Zn (Yg (k+1) (⟨by omega,Og ht (by omega) (by omega) (by assumption)⟩) [] 0))
 replace hc2:=of_decide_eq_false hc2
 refine GC.exit (Zp (Zp (GE.hit (Zt (Zs (Zr ?_))))))
 refine Za rfl (Zn (Zt (GC.ret ?_)))
 exact GE.body [] 0 (Ao rfl rfl) rfl (⟨congrArg (fun a0=>(.bool (a0):Value)) (((Rz (Nv ht (by omega) (by omega))).symm:(true:Bool)=Cu x y)),rfl⟩)
theorem FI {W:World}{own:List Asn}{vx:Value}{x:List Int}{vy:Value}{y:List Int}(sx:Ab vx)(ex:Ent own fun w=>Ints w vx x)(sy:Ab vy)(ey:Ent own fun w=>Ints w vy y)(hl:x.length≤9223372036854775807):Spec Tryz.prog 53 [vx,vy] W own (fun v ow=>v = .bool (Cu x y)∧ow=own):=by
 refine Spec.enter Tryz.f53 _ Tryz.func53 rfl (n:=26) rfl rfl ?_
 refine Zs (Zr (Za rfl (Zn (Zt (Zs (Zs (Zr (Zm rfl (Zd (Qn Ac ex) rfl ?_)))))))))
 refine Zm rfl (Zd (Qn Ac ey) rfl ?_)
 refine Zd EK rfl ?_
 refine Zn (Zt ?_)
 refine GC.cond rfl (fun hc1=>?_) (fun hc1=>?_)
 replace hc1:=AA hc1
 refine Zs (Zr (Za rfl (Zn (Zt (GC.ret (GE.passR ?_))))))
 exact GE.body [] 0 (Ao rfl rfl) rfl (⟨congrArg (fun a0=>(.bool (a0):Value)) (((Gz fun h=>(by assumption:(x.length:Int)≠y.length) (by rw[h])).symm:(false:Bool)=Cu x y)),rfl⟩)
 replace hc1:=Al hc1
 refine Zk (Zt (Zs (Zs (Zr (Zm rfl (Zd (Qn Ac ex) rfl ?_))))))
 refine Zm rfl (Zn (Zt (GC.block ?_)))
 refine Yl (ι:=Nat) (fun k=>[(0,vx),(1,vy),(12,J ((x.length:Nat))),(13,J ((k:Int)))]) (fun k=>own) (fun k=>(k≤x.length)∧(x.take k=y.take k)) (fun k=>x.length - k) 0 (⟨by omega,rfl⟩) [] 0 ?_
 rintro k ⟨hk,ht⟩
 refine Zs (Zr (Zd Bb rfl ?_))
 refine Zn (Zt (Zs ?_))
 refine GC.cond rfl (fun hc2=>?_) (fun hc2=>?_)
 replace hc2:=of_decide_eq_true hc2
 refine Zk (Zt (Zs (GC.block (Zs (Zr ?_)))))
 refine Zm rfl (Za rfl (Zn (Zt (Zs (Ya [(0,_),(1,_),(12,_),(13,_),(5,_)] ?_)))))
 refine Wp [Z0 16 vx,Z0 17 (J ((k:Int))),Z1 18 [(0,16),(1,17)] (Aa vx 1 (k)),Z1 19 [(2,18)] (J (x.getD (k) 0)),Z0 20 vy,Z0 21 (J ((k:Int))),Z1 22 [(4,20),(5,21)] (Aa vy 1 (k)),Z1 23 [(6,22)] (J (y.getD (k) 0)),Z1 24 [(3,19),(7,23)] (.bool ((x.getD (k) 0) != (y.getD (k) 0)))] (Yv (Yv (Zc (fun _ _ _=>Zq (Qi Ac (ex.app)) rfl) (Zc (fun _ _ _=>Zq (Qv Ak (ex.app)) rfl) (Yv (Yv (Zc (fun _ _ _=>Zq (Qi Ac (ey.app)) rfl) (Zc (fun _ _ _=>Zq (Qv Ak (ey.app)) rfl) (Zc (fun _ _ _=>Zq EK rfl) As.nil))))))))) ?_
 intro θ _
 refine Yb [(0,_),(1,_),(12,_),(13,_),(24,.bool ((x.getD (k) 0) != (y.getD (k) 0)))] (own) ?_
 show G _ _ _ [] _ _ _ _
 refine Zn (Zt ?_)
 refine GC.cond rfl (fun hc3=>?_) (fun hc3=>?_)
 replace hc3:=AA hc3
 refine Zs (Zr (Za rfl (Zn (Zt (GC.ret (GE.blockR (GE.passR (GE.passR (GE.blockR (GE.passR ?_))))))))))
 exact GE.body [] 0 (Ao rfl rfl) rfl (⟨congrArg (fun a0=>(.bool (a0):Value)) (((Gz (RE (by assumption))).symm:(false:Bool)=Cu x y)),rfl⟩)
 replace hc3:=Al hc3
 refine Zk (GE.blockN (Zt (Zr ?_)))
 refine Zd Qp rfl ?_
 exact Zm rfl (Zn (Yg (k+1) (⟨by omega,Og ht (by omega) (by omega) (by assumption)⟩) [] 0))
 replace hc2:=of_decide_eq_false hc2
 refine GC.exit (Zp (Zp (GE.hit (Zt (Zs (Zr ?_))))))
 refine Za rfl (Zn (Zt (GC.ret ?_)))
 exact GE.body [] 0 (Ao rfl rfl) rfl (⟨congrArg (fun a0=>(.bool (a0):Value)) (((Rz (Nv ht (by omega) (by omega))).symm:(true:Bool)=Cu x y)),rfl⟩)
theorem KD {W:World}{own:List Asn}{vx:Value}{x:List Int}{q:Int}(sx:Ab vx)(hq:0≤q∧q≤1099511627776)(hl:x.length≤1073741824):Spec Tryz.prog 71 [vx,J (q)] W (ints 3 vx x::own) (fun v ow=>v=J (q+(x.length:Nat))∧ow=ints 3 vx (OT q x.length)::own):=by
 refine Spec.enter Tryz.f71 _ Tryz.func71 rfl (n:=19) rfl rfl ?_
 refine Zs (Zr (Za rfl (Zn (Zt (Zs (Zs (Zr (Za rfl (Zn (Zt (GC.block ?_)))))))))))
 refine GC.loop (ι:=Nat × List Int) (fun⟨k,ys⟩=>[(0,vx),(1,J (q+(k:Int))),(5,J ((k:Int)))]) (fun⟨k,ys⟩=>ints 3 vx ys::own) (fun⟨k,ys⟩=>(k≤x.length)∧(ys.length=x.length)∧(ys=OT q k++x.drop k)) (fun⟨k,ys⟩=>x.length - k) (0,x) (⟨by omega,rfl,by simp[OT]⟩) ⟨rfl,int_eq (by omega),rfl,trivial⟩ [] 0 rfl ?_
 rintro⟨k,ys⟩ ⟨hk,hy,ht⟩
 refine Zs (Zs (Zr (Zm rfl (Zm rfl (Zd (Qn Ac (Ei 0)) rfl ?_)))))
 refine Zd Bb rfl ?_
 refine Zn (Zt ?_)
 refine GC.cond rfl (fun hc1=>?_) (fun hc1=>?_)
 replace hc1:=of_decide_eq_true hc1
 refine Zk (Zt (Zs (GC.block (Zs (Zr ?_)))))
 refine Zm rfl (Zm rfl (Zm rfl (Zd (Qi Ac (Ei 0)) rfl ?_)))
 refine G.stepD0 (OD.storeInt rfl Ak rfl rfl (i:=0) rfl (by omega)) rfl rfl ?_
 refine Zn (Zt (Zr (Zm rfl (Zd (OD.addI rfl rfl rfl (by first | omega | (simp only[List.length_set,List.length_replicate];omega))) rfl ?_))))
 refine Za rfl (Zn (GE.blockN (Zt (Zr ?_))))
 refine Zm rfl (Zd (OD.addI rfl rfl rfl (by first | omega | (simp only[List.length_set,List.length_replicate];omega))) rfl ?_)
 exact Za rfl (Zn (GE.again (k+1,ys.set k (q+(k:Int))) (⟨by omega,by simp[hy],by subst ht;exact YS (by omega)⟩) (by first | omega | (dsimp only;omega)) ⟨rfl,int_eq (by omega),rfl,trivial⟩ [] 0 rfl))
 replace hc1:=of_decide_eq_false hc1
 refine GC.exit (Zp (Zp (GE.hit (Zt (Zs (Zr ?_))))))
 refine Zm rfl (Za rfl (Zn (Zt (GC.ret ?_))))
 exact GE.body [] 0 (Ao rfl rfl) rfl (⟨congrArg (fun a0=>(J (a0):Value)) ((by omega:(q+(k:Int):Int)=q+(x.length:Nat))),congrArg (fun l0=>ints 3 vx l0::own) ((by rw[ht,show k=x.length by omega];simp:ys=OT q x.length))⟩)
theorem Pp {W:World}{own:List Asn}{vx:Value}{n:Nat}{q:Int}(sx:Ab vx)(ex:Ent own fun w=>Ints w vx (OT q n))(hq:0≤q∧q≤1099511627776)(hl:n≤1073741824):Spec Tryz.prog 72 [vx,J (q)] W own (fun v ow=>v=J (q+(n:Nat))∧ow=own):=by
 have hml:=MI q n
 refine Spec.enter Tryz.f72 _ Tryz.func72 rfl (n:=21) rfl rfl ?_
 refine Zs (Zr (Za rfl (Zn (Zt (Zs (Zs (Zr (Za rfl (Zn (Zt (GC.block ?_)))))))))))
 refine GC.loop (ι:=Nat) (fun k=>[(0,vx),(1,J (q+(k:Int))),(5,J ((k:Int)))]) (fun k=>own) (fun k=>(k≤n)) (fun k=>n - k) 0 (by omega) ⟨rfl,int_eq (by omega),rfl,trivial⟩ [] 0 rfl ?_
 rintro k hk
 refine Zs (Zs (Zr (Zm rfl (Zm rfl (Zd (Qn Ac ex) rfl ?_)))))
 refine Zd Bb rfl ?_
 refine Zn (Zt ?_)
 refine GC.cond rfl (fun hc1=>?_) (fun hc1=>?_)
 replace hc1:=of_decide_eq_true hc1
 refine Zk (Zt (Zs (GC.block (Zs (Zs (Zr ?_))))))
 refine Zm rfl (Zm rfl (Zd (Qi Ac ex) rfl ?_))
 refine Zd (Qv Ak ex) rfl ?_
 refine Zm rfl (Zd (OD.eqv EK (congrArg Value.bool ((gz (YO q k n (by omega))):_=false))) rfl ?_)
 refine Zn (Zt (GC.condF rfl (Zk (Zt (Zr ?_)))))
 refine Zm rfl (Zd Qp rfl ?_)
 refine Za rfl (Zn (GE.blockN (Zt (Zr ?_))))
 refine Zm rfl (Zd Qp rfl ?_)
 exact Za rfl (Zn (GE.again (k+1) (by omega) (by first | omega | (dsimp only;omega)) ⟨rfl,int_eq (by omega),rfl,trivial⟩ [] 0 rfl))
 replace hc1:=of_decide_eq_false hc1
 refine GC.exit (Zp (Zp (GE.hit (Zt (Zs (Zr ?_))))))
 refine Zm rfl (Za rfl (Zn (Zt (GC.ret ?_))))
 exact GE.body [] 0 (Ao rfl rfl) rfl (⟨congrArg (fun a0=>(J (a0):Value)) ((by omega:(q+(k:Int):Int)=q+(n:Nat))),rfl⟩)
theorem D1 {W:World}{own:List Asn}{ap:Int}{ar:Int}{ac:Int}{vad:Value}{ad:List Int}{vbd:Value}(sad:Ab vad)(ead:Ent own fun w=>Ints w vad ad)(sbd:Ab vbd)(ebd:Ent own fun w=>Ints w vbd ad)(hl:ad.length≤9223372036854775807):Spec Tryz.prog 31 [.agg #[J (ap),J (ar),J (ac),vad],.agg #[J (ap),J (ar),J (ac),vbd]] W own (fun v ow=>v = .bool (true)∧ow=own):=by
 refine Spec.enter Tryz.f31 _ Tryz.func31 rfl (n:=26) rfl rfl ?_
 refine Zs (Zr (Yt (OG.box (cs:=[J (ap),J (ar),J (ac),vad]) rfl rfl rfl) ?_))
 rintro _ _ ⟨g1,rfl,rfl⟩
 refine Yt (OG.box (cs:=[J (ap),J (ar),J (ac),vbd]) rfl rfl rfl) ?_
 rintro _ _ ⟨g2,rfl,rfl⟩
 refine Za rfl (Zn (Zt (Zs (Zs (Zr (Zd (Qf BG) rfl ?_))))))
 refine Zd (Ql Ak 1) rfl ?_
 refine Zd (Qf BG) rfl ?_
 refine Zd (Ql Ak 0) rfl ?_
 refine Zd (OD.eqv EK (congrArg Value.bool ((CE _):_=false))) rfl ?_
 refine Zn (Zt (GC.condF rfl (Zk (Zt (Zs (Zs (Zr ?_)))))))
 refine Zd (Qf BJ) rfl ?_
 refine Zd (Ql Ak 1) rfl ?_
 refine Zd (Qf BJ) rfl ?_
 refine Zd (Ql Ak 0) rfl ?_
 refine Zd (OD.eqv EK (congrArg Value.bool ((CE _):_=false))) rfl ?_
 refine Zn (Zt (GC.condF rfl (Zk (Zt (Zs (Zs (Zr ?_)))))))
 refine Zd (Qf BN) rfl ?_
 refine Zd (Ql Ak 1) rfl ?_
 refine Zd (Qf BN) rfl ?_
 refine Zd (Ql Ak 0) rfl ?_
 refine Zd (OD.eqv EK (congrArg Value.bool ((CE _):_=false))) rfl ?_
 refine Zn (Zt (GC.condF rfl (Zk (Zt (Zs (Zs (Zr ?_)))))))
 refine Zd (Qf BV) rfl ?_
 refine Zd (Ql AH 1) rfl ?_
 refine Zd (Qf BV) rfl ?_
 refine Zd (Ql AH 0) rfl ?_
 refine Yt (Yc [vad,vbd] aG (by exact(Hh sad (Ent.drop 2 ead) sbd (Ent.drop 2 ebd) (by omega)))) ?_
 rintro _ _ ⟨rfl,rfl⟩
 refine Zd (OD.not rfl rfl) rfl ?_
 refine Zn (Zt (GC.condF rfl (Zk (Zt (Zs (Zr ?_))))))
 refine Za rfl (Zn (Zt (GC.ret ?_)))
 exact GE.body [] 2 (Ao rfl rfl) rfl (⟨rfl,rfl⟩)
theorem MG {W:World}{own:List Asn}{ap:Int}{ar:Int}{ac:Int}{vad:Value}{ad:List Int}{q:Int}(sad:Ab vad)(hq:0≤q∧q≤1099511627776)(hl:ad.length≤1073741824):Spec Tryz.prog 32 [.agg #[J (ap),J (ar),J (ac),vad],J (q)] W (ints 3 vad ad::own) (fun v ow=>v=J (q+(ad.length:Nat))∧ow=ints 3 vad (OT q ad.length)::own):=by
 refine Spec.enter Tryz.f32 _ Tryz.func32 rfl (n:=10) rfl rfl ?_
 refine Zs (Zr (Yt (OG.box (cs:=[J (ap),J (ar),J (ac),vad]) rfl rfl rfl) ?_))
 rintro _ _ ⟨g1,rfl,rfl⟩
 refine Za rfl (Zn (Zt (Zs (Zr (Zd (Qf BV) rfl ?_)))))
 refine Zd (Ql AH 0) rfl ?_
 refine Zm rfl (Yp [1] (_::_::own) ?_)
 refine Yt (Yc [vad,J (q)] ah (by exact(KD sad (by omega) (by omega)))) ?_
 rintro _ _ ⟨rfl,rfl⟩
 refine Za rfl (Zn (Zt (Zs (Zr (Zm rfl (Za rfl (Zn (Zt (GC.ret ?_)))))))))
 exact GE.body [0] 1 (Ao rfl rfl) rfl (⟨rfl,rfl⟩)
theorem Gf {W:World}{own:List Asn}{ap:Int}{ar:Int}{ac:Int}{vad:Value}{n:Nat}{q:Int}(sad:Ab vad)(ead:Ent own fun w=>Ints w vad (OT q n))(hq:0≤q∧q≤1099511627776)(hl:n≤1073741824):Spec Tryz.prog 33 [.agg #[J (ap),J (ar),J (ac),vad],J (q)] W own (fun v ow=>v=J (q+(n:Nat))∧ow=own):=by
 refine Spec.enter Tryz.f33 _ Tryz.func33 rfl (n:=12) rfl rfl ?_
 refine Zs (Zr (Yt (OG.box (cs:=[J (ap),J (ar),J (ac),vad]) rfl rfl rfl) ?_))
 rintro _ _ ⟨g1,rfl,rfl⟩
 refine Za rfl (Zn (Zt (Zs (Zr (Zd (Qf BV) rfl ?_)))))
 refine Zd (Ql AH 0) rfl ?_
 refine Zm rfl (Yt (Yc [vad,J (q)] fl (by exact(Pp sad (Ent.drop 1 ead) (by omega) (by omega)))) ?_)
 rintro _ _ ⟨rfl,rfl⟩
 refine Za rfl (Zn (Zt (Zs (Zs (Zr (Zm rfl (Zd (OD.eqv Bb (congrArg Value.bool ((decide_eq_false (by omega)):_=false))) rfl ?_)))))))
 refine Zn (Zt (GC.condF rfl (Zk (Zt (Zs (Zr ?_))))))
 refine Zm rfl (Za rfl (Zn (Zt (GC.ret ?_))))
 exact GE.body [] 1 (Ao rfl rfl) rfl (⟨rfl,rfl⟩)
theorem Pv {W:World}{own:List Asn}{ar:Int}{vad:Value}{ad:List Int}{q:Int}(sad:Ab vad)(ead:Ent own fun w=>Ints w vad ad)(hq:0≤q∧q≤1048576)(hl:ad.length≤9223372036854775807):Spec Tryz.prog 8 [.agg #[J (ar),vad],J (q)] W own (fun v ow=>v=J (VM ad.length q)∧ow=own):=by
 refine Spec.enter Tryz.f8 _ Tryz.func8 rfl (n:=12) rfl rfl ?_
 refine Zs (Zr (Yt (OG.box (cs:=[J (ar),vad]) rfl rfl rfl) ?_))
 rintro _ _ ⟨g1,rfl,rfl⟩
 refine Za rfl (Zn (Zt (Zs (Zr (Zd (Qf Xa) rfl ?_)))))
 refine Zd (Ql AH 0) rfl ?_
 refine Zm rfl (Yt (Yc [vad,J (q)] eK (by exact(Tp sad (Ent.drop 1 ead) (by omega) (by omega)))) ?_)
 rintro _ _ ⟨rfl,rfl⟩
 refine Za rfl (Zn (Zt (Zs (Zs (Zr (Zm rfl (Zd Bb rfl ?_)))))))
 refine Zn (Zt ?_)
 refine GC.cond rfl (fun hc2=>?_) (fun hc2=>?_)
 replace hc2:=of_decide_eq_true hc2
 refine Zs (Zr (Za rfl (Zn (Zt (GC.ret (GE.passR ?_))))))
 exact GE.body [] 1 (Ao rfl rfl) rfl (⟨congrArg (fun a0=>(J (a0):Value)) (((ca (by assumption)).symm:(-1:Int)=VM ad.length q)),rfl⟩)
 replace hc2:=of_decide_eq_false hc2
 refine Zk (Zt (Zs (Zr (Zm rfl (Za rfl (Zn (Zt (GC.ret ?_))))))))
 exact GE.body [] 1 (Ao rfl rfl) rfl (⟨rfl,rfl⟩)
theorem En {W:World}{own:List Asn}{ar:Int}{vad:Value}{ad:List Int}(sad:Ab vad)(ead:Ent own fun w=>Ints w vad ad)(hl:ad.length≤1073741824):Spec Tryz.prog 10 [.agg #[J (ar),vad]] W own (fun v ow=>∃ (r1:Value),v = .agg #[J (ar),r1]∧Ab r1∧ow=ints 3 r1 ad::own):=by
 refine Spec.enter Tryz.f10 _ Tryz.func10 rfl (n:=12) rfl rfl ?_
 refine Zs (Zr (Yt (OG.box (cs:=[J (ar),vad]) rfl rfl rfl) ?_))
 rintro _ _ ⟨g1,rfl,rfl⟩
 refine Yt (OG.alloc rfl An (zs:=[J (0),.slice none 0 0]) rfl) ?_
 rintro _ _ ⟨g2,rfl,rfl⟩
 refine Zn (Zt (Zs (Zr (Yt (OG.alloc rfl An (zs:=[J (0),.slice none 0 0]) rfl) ?_))))
 rintro _ _ ⟨g3,rfl,rfl⟩
 refine Zn (Zt (Zs (Zr (Zd (Qf cz) rfl ?_))))
 refine Zd (Ql Ak 2) rfl ?_
 refine Zd (Qf Aq) rfl ?_
 refine Yu Ak [J (ar)] 0 rfl ?_
 refine Zn (Zt (Zs (Zr (Zd (Qf Xa) rfl ?_))))
 refine Zd (Ql AH 2) rfl ?_
 refine Yt (Yc [vad] ff (by exact(Vf sad (Ent.drop 3 ead) (by omega)))) ?_
 rintro v4 _ ⟨_,rfl,hs5,rfl⟩
 refine Zd (Qf AV) rfl ?_
 refine G.stepD0 (OD.store rfl AH rfl rfl (us:=[v4]) (AN (Ab.one hs5)) rfl (Ad (Ab.one hs5) rfl) (i:=1) rfl rfl) rfl rfl ?_
 refine Zn (Zt (Zs (Zr (Zd (Qa An 1 [_,_]) rfl ?_))))
 refine Yu An [J (ar),v4] 2 (Ad rfl (Ad (Ab.one hs5) rfl)) ?_
 refine Zn (Zt (GC.ret ?_))
 exact GE.body [0] 3 (AZ rfl (RVs.cons (Ag An rfl (i:=2) rfl rfl) RVs.nil) rfl) rfl (⟨v4,rfl,hs5,rfl⟩)
theorem Ll {W:World}{own:List Asn}{ar:Int}{vad:Value}{ad:List Int}{vbd:Value}(sad:Ab vad)(ead:Ent own fun w=>Ints w vad ad)(sbd:Ab vbd)(ebd:Ent own fun w=>Ints w vbd ad)(hl:ad.length≤9223372036854775807):Spec Tryz.prog 13 [.agg #[J (ar),vad],.agg #[J (ar),vbd]] W own (fun v ow=>v = .bool (true)∧ow=own):=by
 refine Spec.enter Tryz.f13 _ Tryz.func13 rfl (n:=16) rfl rfl ?_
 refine Zs (Zr (Yt (OG.box (cs:=[J (ar),vad]) rfl rfl rfl) ?_))
 rintro _ _ ⟨g1,rfl,rfl⟩
 refine Yt (OG.box (cs:=[J (ar),vbd]) rfl rfl rfl) ?_
 rintro _ _ ⟨g2,rfl,rfl⟩
 refine Za rfl (Zn (Zt (Zs (Zs (Zr (Zd (Qf Aq) rfl ?_))))))
 refine Zd (Ql Ak 1) rfl ?_
 refine Zd (Qf Aq) rfl ?_
 refine Zd (Ql Ak 0) rfl ?_
 refine Zd (OD.eqv EK (congrArg Value.bool ((CE _):_=false))) rfl ?_
 refine Zn (Zt (GC.condF rfl (Zk (Zt (Zs (Zs (Zr ?_)))))))
 refine Zd (Qf AV) rfl ?_
 refine Zd (Ql AH 1) rfl ?_
 refine Zd (Qf AV) rfl ?_
 refine Zd (Ql AH 0) rfl ?_
 refine Yt (Yc [vad,vbd] aG (by exact(Hh sad (Ent.drop 2 ead) sbd (Ent.drop 2 ebd) (by omega)))) ?_
 rintro _ _ ⟨rfl,rfl⟩
 refine Zd (OD.not rfl rfl) rfl ?_
 refine Zn (Zt (GC.condF rfl (Zk (Zt (Zs (Zr ?_))))))
 refine Za rfl (Zn (Zt (GC.ret ?_)))
 exact GE.body [] 2 (Ao rfl rfl) rfl (⟨rfl,rfl⟩)
theorem M9 {W:World}{own:List Asn}{ar:Int}{vad:Value}{ad:List Int}{q:Int}(sad:Ab vad)(hq:0≤q∧q≤1099511627776)(hl:ad.length≤1073741824):Spec Tryz.prog 26 [.agg #[J (ar),vad],J (q)] W (ints 3 vad ad::own) (fun v ow=>v=J (q+(ad.length:Nat))∧ow=ints 3 vad (OT q ad.length)::own):=by
 refine Spec.enter Tryz.f26 _ Tryz.func26 rfl (n:=10) rfl rfl ?_
 refine Zs (Zr (Yt (OG.box (cs:=[J (ar),vad]) rfl rfl rfl) ?_))
 rintro _ _ ⟨g1,rfl,rfl⟩
 refine Za rfl (Zn (Zt (Zs (Zr (Zd (Qf AV) rfl ?_)))))
 refine Zd (Ql AH 0) rfl ?_
 refine Zm rfl (Yp [1] (_::_::own) ?_)
 refine Yt (Yc [vad,J (q)] ah (by exact(KD sad (by omega) (by omega)))) ?_
 rintro _ _ ⟨rfl,rfl⟩
 refine Za rfl (Zn (Zt (Zs (Zr (Zm rfl (Za rfl (Zn (Zt (GC.ret ?_)))))))))
 exact GE.body [0] 1 (Ao rfl rfl) rfl (⟨rfl,rfl⟩)
end Go.Proofs.YtbmnnbglipkidaaGreatDoor
