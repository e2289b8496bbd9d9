/-
  Matrices: contracts of the functions.
-/
import Derived.Test.YtbmnnbglipkidaaGreatDoorZ49
namespace Go.Proofs.YtbmnnbglipkidaaGreatDoor
set_option maxRecDepth 100000
set_option linter.unusedVariables false
set_option linter.unusedSimpArgs false
open Go.RowKit
theorem UX:∀ us w,(callFunc 61 us).run Tryz.prog w = .ok (.enter 61 us) w:=fun us w=>by kernel_rfl
theorem KZ:∀ us w,(callFunc 65 us).run Tryz.prog w = .ok (.enter 65 us) w:=fun us w=>by kernel_rfl
theorem Pl:∀ us w,(callFunc 142 us).run Tryz.prog w = .ok (.enter 142 us) w:=fun us w=>by kernel_rfl
theorem Pq:∀ us w,(callFunc 145 us).run Tryz.prog w = .ok (.enter 145 us) w:=fun us w=>by kernel_rfl
theorem VP:∀ us w,(callFunc 147 us).run Tryz.prog w = .ok (.enter 147 us) w:=fun us w=>by kernel_rfl
theorem E6:∀ us w,(callFunc 166 us).run Tryz.prog w = .ok (.enter 166 us) w:=fun us w=>by kernel_rfl
theorem bG:∀ us w,(callFunc 172 us).run Tryz.prog w = .ok (.enter 172 us) w:=fun us w=>by kernel_rfl
theorem H6 {W:World}{own:List Asn}{ap:Int}{ar:Int}{ac:Int}{vad:Value}{ad:List Int}(sad:Ab vad)(ead:Ent own fun w=>Ints w vad ad):Spec Tryz.prog 147 [.agg #[J (ap),J (ar),J (ac),vad]] W own (fun v ow=>v = .bool (AY ⟨ap,ar,ac,ad⟩)∧ow=own):=Spec.below fun w hs=>ME _ _ w ⟨_,rfl,ead W w hs⟩
theorem KT {W:World}{own:List Asn}{ap:Int}{ar:Int}{ac:Int}{vad:Value}{ad:List Int}(sad:Ab vad)(ead:Ent own fun w=>Ints w vad ad):Spec Tryz.prog 170 [.agg #[J (ap),J (ar),J (ac),vad]] W own (fun v ow=>v = .bool (AY ⟨ap,ar,ac,ad⟩)∧ow=own):=Spec.below fun w hs=>GO _ _ w ⟨_,rfl,ead W w hs⟩
theorem Pm {W:World}{own:List Asn}{ap:Int}{ar:Int}{ac:Int}{vad:Value}{ad:List Int}{k:Int}{bp:Int}{br:Int}{bc:Int}{vbd:Value}{bd:List Int}(sad:Ab vad)(ead:Ent own fun w=>Ints w vad ad)(sbd:Ab vbd)(ebd:Ent own fun w=>Ints w vbd bd)(ha:E2 ⟨ap,ar,ac,ad⟩)(hb:E2 ⟨bp,br,bc,bd⟩)(hk:0≤k∧k≤20000)(hl:bd.length≤ad.length):Spec Tryz.prog 145 [.agg #[J (ap),J (ar),J (ac),vad],J (k),.agg #[J (bp),J (br),J (bc),vbd]] W own (fun v ow=>∃ (r3:Value),v = .agg #[J (ap),J (ar),J (ac),r3]∧Ab r3∧ow=ints 3 r3 (addF k ap ad bd)::own):=Spec.ownM (m:=Gl ⟨ap,ar,ac,ad⟩ k ⟨bp,br,bc,bd⟩) fun w hs=>VW _ _ _ _ k w ⟨_,rfl,ead W w hs⟩ ⟨_,rfl,ebd W w hs⟩ ha hb hk.1 hk.2 hl
theorem Uy {W:World}{own:List Asn}{ap:Int}{ar:Int}{ac:Int}{vad:Value}{ad:List Int}(sad:Ab vad)(ead:Ent own fun w=>Ints w vad ad)(hl:ad.length≤1073741824):Spec Tryz.prog 172 [.agg #[J (ap),J (ar),J (ac),vad]] W own (fun v ow=>∃ (r3:Value),v = .agg #[J (ap),J (ar),J (ac),r3]∧Ab r3∧ow=ints 3 r3 ad::own):=Spec.ownM (m:=⟨ap,ar,ac,ad⟩) fun w hs=>KS _ _ w ⟨_,rfl,ead W w hs⟩ hl
theorem ZG {W:World}{own:List Asn}{ap:Int}{ar:Int}{ac:Int}{vad:Value}{ad:List Int}{bp:Int}{br:Int}{bc:Int}{vbd:Value}{bd:List Int}(sad:Ab vad)(ead:Ent own fun w=>Ints w vad ad)(sbd:Ab vbd)(ebd:Ent own fun w=>Ints w vbd bd)(ha:E2 ⟨ap,ar,ac,ad⟩)(hb:E2 ⟨bp,br,bc,bd⟩)(hl:bd.length=ad.length):Spec Tryz.prog 136 [.agg #[J (ap),J (ar),J (ac),vad],.agg #[J (bp),J (br),J (bc),vbd]] W own (fun v ow=>∃ (r3:Value),v = .agg #[J (ap),J (ar),J (ac),r3]∧Ab r3∧ow=ints 3 r3 (addF 1 ap ad bd)::own):=Spec.ownM (m:=Gl ⟨ap,ar,ac,ad⟩ 1 ⟨bp,br,bc,bd⟩) fun w hs=>SA _ _ _ _ w ⟨_,rfl,ead W w hs⟩ ⟨_,rfl,ebd W w hs⟩ ha hb hl
theorem DX {W:World}{own:List Asn}{p:Int}{r:Int}{c:Int}(hp:AJ p=true)(hr:BZ r 0 40=true)(hc:BZ c 0 40=true):Spec Tryz.prog 142 [J (p),J (r),J (c)] W own (fun v ow=>∃ (r3:Value),v = .agg #[J (p),J (r),J (c),r3]∧Ab r3∧ow=ints 3 r3 (List.replicate ((r:Int)*c).toNat 0)::own):=by
 have hb:=Gi (AX hr) (AX hc)
 refine Spec.enter Tryz.f142 _ Tryz.func142 rfl (n:=29) rfl rfl ?_
 refine Zs (Zr (Yt (OG.alloc rfl Ah (zs:=[J (0),J (0),J (0),.slice none 0 0]) rfl) ?_))
 rintro _ _ ⟨g1,rfl,rfl⟩
 refine Zn (Zt (Zs (Zs (Zr (Zm rfl (Yt (OG.imp (K':=fun v ow=>v = .bool true∧ow=box g1 51 [J (0),J (0),J (0),.slice none 0 0]::own) (Yc [J (p)] UX (by exact LZ)) (by rintro _ _ ⟨rfl,rfl⟩;exact⟨congrArg Value.bool (hp),rfl⟩)) ?_))))))
 rintro _ _ ⟨rfl,rfl⟩
 refine Zd (OD.not rfl rfl) rfl ?_
 refine Zm rfl (Yd (OD.move rfl rfl) ?_)
 refine Ye (OG.imp (K':=fun v ow=>v = .bool true∧ow=box g1 51 [J (0),J (0),J (0),.slice none 0 0]::own) (Yc [J (r),J (0),J (40)] RI (by exact Gr)) (by rintro _ _ ⟨rfl,rfl⟩;exact⟨congrArg Value.bool (hr),rfl⟩)) ?_
 rintro _ _ ⟨rfl,rfl⟩
 refine Yd (OD.not rfl rfl) ?_
 refine Zd (OD.pickF rfl rfl rfl) rfl ?_
 refine Zm rfl (Yd (OD.move rfl rfl) ?_)
 refine Ye (OG.imp (K':=fun v ow=>v = .bool true∧ow=box g1 51 [J (0),J (0),J (0),.slice none 0 0]::own) (Yc [J (c),J (0),J (40)] RI (by exact Gr)) (by rintro _ _ ⟨rfl,rfl⟩;exact⟨congrArg Value.bool (hc),rfl⟩)) ?_
 rintro _ _ ⟨rfl,rfl⟩
 refine Yd (OD.not rfl rfl) ?_
 refine Zd (OD.pickF rfl rfl rfl) rfl ?_
 refine Zn (Zt (GC.condF rfl (Zk (Zt (Zs (Zr ?_))))))
 refine Zm rfl (Zm rfl (Zm rfl (Zm rfl (Zm rfl (Zd Qm rfl ?_)))))
 refine Yt (OG.makeInts rfl Ac rfl rfl (by omega)) ?_
 rintro v2 _ ⟨hs3,rfl⟩
 refine Zd (OD.build (idx:=[0,1,2,3]) (xs:=[.tmp 21,.tmp 22,.tmp 23,.tmp 27]) (vs:=[J (p),J (r),J (c),v2]) (cs:=[[J (p)],[J (r)],[J (c)],[v2]]) (zs:=[J (0),J (0),J (0),.slice none 0 0]) (r:=[J (p),J (r),J (c),v2]) rfl Ah rfl rfl rfl ⟨rfl,⟨rfl,⟨rfl,⟨(AN (Ab.one hs3)),trivial⟩⟩⟩⟩ rfl) rfl ?_
 refine Yu Ah [J (p),J (r),J (c),v2] 1 (Ad rfl (Ad rfl (Ad rfl (Ad (Ab.one hs3) rfl)))) ?_
 refine Zn (Zt (GC.ret ?_))
 exact GE.body [0] 1 (AZ rfl (RVs.cons (Ag Ah rfl (i:=1) rfl rfl) RVs.nil) rfl) rfl (⟨v2,rfl,hs3,rfl⟩)
theorem Lj {W:World}{own:List Asn}{ap:Int}{ar:Int}{ac:Int}{vad:Value}{ad:List Int}{k:Int}(sad:Ab vad)(ead:Ent own fun w=>Ints w vad ad):Spec Tryz.prog 88 [.agg #[J (ap),J (ar),J (ac),vad],J (k)] W own (fun v ow=>∃ (r3:Value),v = .agg #[J ((AE ⟨ap,ar,ac,ad⟩ k).p),J ((AE ⟨ap,ar,ac,ad⟩ k).r),J ((AE ⟨ap,ar,ac,ad⟩ k).c),r3]∧Ab r3∧ow=ints 3 r3 ((AE ⟨ap,ar,ac,ad⟩ k).d)::own):=by
 refine Spec.enter Tryz.f88 _ Tryz.func88 rfl (n:=22) rfl rfl ?_
 refine Zs (Zr (Yt (OG.box (cs:=[J (ap),J (ar),J (ac),vad]) rfl rfl rfl) ?_))
 rintro _ _ ⟨g1,rfl,rfl⟩
 refine Yt (OG.alloc rfl Ah (zs:=[J (0),J (0),J (0),.slice none 0 0]) rfl) ?_
 rintro _ _ ⟨g2,rfl,rfl⟩
 refine Zn (Zt (Zs (Zs (Zr (Zd (Qa Ah 1 [_,_,_,_]) rfl ?_)))))
 refine Yt (Yc [.agg #[J (ap),J (ar),J (ac),vad]] VP (by exact(H6 sad (Ent.drop 2 ead)))) ?_
 rintro _ _ ⟨rfl,rfl⟩
 refine Zd (OD.not rfl rfl) rfl ?_
 refine Zn (Zt ?_)
 refine GC.cond rfl (fun hc3=>?_) (fun hc3=>?_)
 replace hc3:=Ai hc3
 refine Zs (Zr (Zd (OD.build (idx:=[]) (xs:=[]) (vs:=[]) (cs:=[]) (zs:=[J (0),J (0),J (0),.slice none 0 0]) (r:=[J (0),J (0),J (0),.slice none 0 0]) rfl Ah rfl rfl rfl trivial rfl) rfl ?_))
 refine Yu Ah [J (0),J (0),J (0),.slice none 0 0] 0 rfl ?_
 refine Zn (Zt (GC.ret (GE.passR ?_)))
 refine GE.nilInts 3 ?_
 exact GE.body [0] 2 (AZ rfl (RVs.cons (Ag Ah rfl (i:=1) rfl rfl) RVs.nil) rfl) rfl (⟨(.slice none 0 0),congr (congr (congrArg (fun a0 a1 a2=>(.agg #[J (a0),J (a1),J (a2),(.slice none 0 0)]:Value)) ((by rw[AE,if_neg (by simp[‹AY _=false›])];first | done | rfl:(0:Int)=(AE ⟨ap,ar,ac,ad⟩ k).p))) ((by rw[AE,if_neg (by simp[‹AY _=false›])];first | done | rfl:(0:Int)=(AE ⟨ap,ar,ac,ad⟩ k).r))) ((by rw[AE,if_neg (by simp[‹AY _=false›])];first | done | rfl:(0:Int)=(AE ⟨ap,ar,ac,ad⟩ k).c)),Ab.nil,congrArg (fun l0=>ints 3 (.slice none 0 0) l0::own) ((by rw[AE,if_neg (by simp[‹AY _=false›])];first | done | rfl : []=(AE ⟨ap,ar,ac,ad⟩ k).d))⟩)
 replace hc3:=Am hc3
 have ok:=DG hc3
 have h3:=BC hc3
 have hs0:=NT ok
 have hs1:=ok.small
 have hle:=L4 ok
 have hk0:0≤k%ap:=Int.emod_nonneg _ (by have:=ok.p0;simp only at this;omega)
 have hk1:k%ap<ap:=Int.emod_lt_of_pos _ (by have:=ok.p0;simp only at this;omega)
 have hp0:=ok.p0
 have hp1:=ok.p1
 simp only at hp0 hp1
 refine Zk (Zt (Zs (Ya [(1,_),(2,_),(4,_)] ?_)))
 refine Wp [Z0 9 (Pg g1 0),Z1 10 [(0,9)] (J (ap)),Z0 11 (Pg g1 1),Z1 12 [(2,11)] (J (ar)),Z0 13 (Pg g1 2),Z1 14 [(4,13)] (J (ac)),⟨15,[(1,10),(3,12),(5,14)],[],[],[6],fun ds => .agg #[J (ap),J (ar),J (ac),((ds.getD 0 []).getD 0 undef)],fun ds=>Ab ((ds.getD 0 []).getD 0 undef),fun ds=>[ints 3 ((ds.getD 0 []).getD 0 undef) (List.replicate ((ar:Int)*ac).toNat 0)]⟩,Z0 16 (J (k)),Z0 17 (Pg g1 0),Z1 18 [(8,17)] (J (ap)),Z1 19 [(7,16),(9,18)] (J (k%ap)),Z0 20 (.agg #[J (ap),J (ar),J (ac),vad]),⟨21,[(6,15),(10,19),(11,20)],[6],[],[6,12],fun ds => .agg #[J (ap),J (ar),J (ac),((ds.getD 1 []).getD 0 undef)],fun ds=>Ab ((ds.getD 1 []).getD 0 undef),fun ds=>[ints 3 ((ds.getD 1 []).getD 0 undef) (addF (k%ap) ap (List.replicate ((ar:Int)*ac).toNat 0) ad)]⟩] (Zc (fun _ _ _=>Zq (Qf BG) rfl) (Zc (fun _ _ _=>Zq (Ql Ak 1) rfl) (Zc (fun _ _ _=>Zq (Qf BJ) rfl) (Zc (fun _ _ _=>Zq (Ql Ak 1) rfl) (Zc (fun _ _ _=>Zq (Qf BN) rfl) (Zc (fun _ _ _=>Zq (Ql Ak 1) rfl) (Zc (fun _ _ _=>AR.plain (OG.imp (Yc [J (ap),J (ar),J (ac)] Pl (by exact(DX (h3.1) (h3.2.1) (h3.2.2)))) (by rintro _ _ ⟨v4,rfl,hs5,rfl⟩;exact⟨[v4],rfl,hs5,rfl⟩)) rfl) (Yv (Zc (fun _ _ _=>Zq (Qf BG) rfl) (Zc (fun _ _ _=>Zq (Ql Ak 1) rfl) (Zc (fun _ _ _=>Zq (Yc [J (k),J (ap)] KZ (by exact(LG (by omega)))) rfl) (Zc (fun _ _ _=>Zq (Qa Ah 1 [_,_,_,_]) rfl) (Zc (fun θ _ ⟨h6d,_,_,_⟩=>AR.plain (OG.imp (Yc [.agg #[J (ap),J (ar),J (ac),((θ 6).getD 0 undef)],J (k%ap),.agg #[J (ap),J (ar),J (ac),vad]] Pq (by exact(Pm h6d (Ei 0) sad (Ent.drop 3 ead.app) (hs0) (hs1) (by omega) (Nat.le_of_eq hle.symm)))) (by rintro _ _ ⟨v6,rfl,hs7,rfl⟩;exact⟨[v6],rfl,hs7,rfl⟩)) rfl) As.nil))))))))))))) ?_
 intro θ hall
 obtain⟨_,_,_,_,_,_,h6a,_,_,_,_,_,h12a,_⟩:=hall
 refine Yb [(4,_),(21,.agg #[J (ap),J (ar),J (ac),((θ 12).getD 0 undef)])] (ints 3 ((θ 6).getD 0 undef) (List.replicate ((ar:Int)*ac).toNat 0)::ints 3 ((θ 12).getD 0 undef) (addF (k%ap) ap (List.replicate ((ar:Int)*ac).toNat 0) ad)::_::_) ?_
 have hs8:Ab ((θ 6).getD 0 undef):=h6a
 clear h6a
 generalize ((θ 6).getD 0 undef)=v9 at *
 have hs10:Ab ((θ 12).getD 0 undef):=h12a
 clear h12a
 generalize ((θ 12).getD 0 undef)=v11 at *
 show G _ _ _ [_] _ _ _ _
 refine Yu Ah [J (ap),J (ar),J (ac),v11] 2 (Ad rfl (Ad rfl (Ad rfl (Ad (Ab.one hs10) rfl)))) ?_
 refine Zn (Zt (GC.ret ?_))
 exact GE.body [1] 3 (AZ rfl (RVs.cons (Ag Ah rfl (i:=2) rfl rfl) RVs.nil) rfl) rfl (⟨v11,congr (congr (congrArg (fun a0 a1 a2=>(.agg #[J (a0),J (a1),J (a2),v11]:Value)) ((by rw[AE,if_pos ‹_›];rfl:(ap:Int)=(AE ⟨ap,ar,ac,ad⟩ k).p))) ((by rw[AE,if_pos ‹_›];rfl:(ar:Int)=(AE ⟨ap,ar,ac,ad⟩ k).r))) ((by rw[AE,if_pos ‹_›];rfl:(ac:Int)=(AE ⟨ap,ar,ac,ad⟩ k).c)),hs10,congrArg (fun l0=>ints 3 v11 l0::own) ((by rw[AE,if_pos ‹_›];rfl:addF (k%ap) ap (List.replicate ((ar:Int)*ac).toNat 0) ad=(AE ⟨ap,ar,ac,ad⟩ k).d))⟩)
theorem SD {W:World}{own:List Asn}{ap:Int}{ar:Int}{ac:Int}{vad:Value}{ad:List Int}{k:Int}(sad:Ab vad)(ead:Ent own fun w=>Ints w vad ad)(hp:1≤ap∧ap≤10007)(hd:ad.length≤1600∧∀ i,0≤ad.getD i 0∧ad.getD i 0≤10007):Spec Tryz.prog 137 [.agg #[J (ap),J (ar),J (ac),vad],J (k)] W own (fun v ow=>∃ (r3:Value),v = .agg #[J (ap),J (ar),J (ac),r3]∧Ab r3∧ow=ints 3 r3 (((ad:List Int)).map (fun x=>(x*(k%ap)).tmod ap))::own):=by
 have hk0:0≤k%ap:=Int.emod_nonneg _ (by omega)
 have hk1:k%ap<ap:=Int.emod_lt_of_pos _ (by omega)
 refine Spec.enter Tryz.f137 _ Tryz.func137 rfl (n:=36) rfl rfl ?_
 refine Zs (Zr (Yt (OG.box (cs:=[J (ap),J (ar),J (ac),vad]) rfl rfl rfl) ?_))
 rintro _ _ ⟨g1,rfl,rfl⟩
 refine Yt (OG.alloc rfl Ah (zs:=[J (0),J (0),J (0),.slice none 0 0]) rfl) ?_
 rintro _ _ ⟨g2,rfl,rfl⟩
 refine Zn (Zt (Zs (Zr (Zd (Qa Ah 1 [_,_,_,_]) rfl ?_))))
 refine Yt (Yc [.agg #[J (ap),J (ar),J (ac),vad]] bG (by exact(Uy sad (Ent.drop 2 ead) (by omega)))) ?_
 rintro _ _ ⟨v3,rfl,hs4,rfl⟩
 refine Yt (OG.alloc rfl Ah (zs:=[J (0),J (0),J (0),.slice none 0 0]) rfl) ?_
 rintro _ _ ⟨g5,rfl,rfl⟩
 refine Yu Ah [J (ap),J (ar),J (ac),v3] 0 (Ad rfl (Ad rfl (Ad rfl (Ad (Ab.one hs4) rfl)))) ?_
 refine Zn (Zt (Zs (Zr (Zm rfl (Zd (Qf BG) rfl ?_)))))
 refine Zd (Ql Ak 0) rfl ?_
 refine Yt (Yc [J (k),J (ap)] E6 (by exact(Fm (by omega)))) ?_
 rintro _ _ ⟨rfl,rfl⟩
 refine Za rfl (Zn (Zt (Zs (Zs (Zr (Za rfl (Zn (Zt (GC.block ?_)))))))))
 refine Yl (ι:=Nat × List Int) (fun⟨i,ys⟩=>[(4,Pg g2 0),(5,Pg g5 0),(6,J (k%ap)),(7,J ((i:Int)))]) (fun⟨i,ys⟩=>box g5 51 [J (ap),J (ar),J (ac),v3]::ints 3 v3 ys::box g2 51 [J (0),J (0),J (0),.slice none 0 0]::box g1 51 [J (ap),J (ar),J (ac),vad]::own) (fun⟨i,ys⟩=>(i≤ad.length)∧(ys=DY (fun x=>(x*(k%ap)).tmod ap) ad i)) (fun⟨i,ys⟩=>ad.length - i) (0,ad) (⟨by omega,rfl⟩) [] 0 ?_
 rintro⟨i,ys⟩ ⟨hi,hy⟩
 have hyl:ys.length=ad.length:=by rw[hy,O2]
 have hg:=PR (fun x=>(x*(k%ap)).tmod ap) ad i
 rw[← hy] at hg
 have hb1:=hd.2 i
 have hm:=BH (hg ▸ hb1:0≤ys.getD i 0∧ys.getD i 0≤10007) (⟨hk0,by omega⟩:0≤k%ap∧k%ap≤10007)
 refine Zs (Zs (Zr (Zm rfl (Zd (Qf BV) rfl ?_))))
 refine Zd (Ql AH 0) rfl ?_
 refine Zd (Qn Ac (Ei 1)) rfl ?_
 refine Zd Bb rfl ?_
 refine Zn (Zt ?_)
 refine GC.cond rfl (fun hc6=>?_) (fun hc6=>?_)
 replace hc6:=of_decide_eq_true hc6
 refine Zk (Zt (Zs (GC.block ?_)))
 refine Ya [(4,_),(5,_),(6,_),(7,_)] ?_
 refine Wp [Z0 21 (Pg g5 3),Z1 22 [(0,21)] v3,Z0 23 (J ((i:Int))),Z0 24 (Pg g5 3),Z1 25 [(3,24)] v3,Z0 26 (J ((i:Int))),Z1 27 [(4,25),(5,26)] (Aa v3 1 (i)),Z1 28 [(6,27)] (J (ys.getD (i) 0)),Z0 29 (J (k%ap)),Z1 30 [(7,28),(8,29)] (J ((ys.getD (i) 0)*(k%ap))),Z0 31 (Pg g5 0),Z1 32 [(10,31)] (J (ap)),Z1 33 [(9,30),(11,32)] (J (((ys.getD (i) 0)*(k%ap)).tmod ap)),Z1 34 [(1,22),(2,23)] (Aa v3 1 (i))] (Zc (fun _ _ _=>Zq (Qf BV) rfl) (Zc (fun _ _ _=>Zq (Ql AH 0) rfl) (Yv (Zc (fun _ _ _=>Zq (Qf BV) rfl) (Zc (fun _ _ _=>Zq (Ql AH 0) rfl) (Yv (Zc (fun _ _ _=>Zq (Qi Ac (Ei 1)) rfl) (Zc (fun _ _ _=>Zq (Qv Ak (Ei 1)) rfl) (Yv (Zc (fun _ _ _=>Zq Qm rfl) (Zc (fun _ _ _=>Zq (Qf BG) rfl) (Zc (fun _ _ _=>Zq (Ql Ak 0) rfl) (Zc (fun _ _ _=>Zq (OD.rem rfl rfl rfl (by omega)) rfl) (Zc (fun _ _ _=>Zq (Qi Ac (Ei 1)) rfl) As.nil)))))))))))))) ?_
 intro θ _
 refine Yb [(4,_),(5,_),(6,_),(7,_),(33,J (((ys.getD (i) 0)*(k%ap)).tmod ap)),(34,Aa v3 1 (i))] (_::_) ?_
 show G _ _ _ [_] _ _ _ _
 refine G.stepD0 (OD.storeInt rfl Ak rfl rfl (i:=1) rfl (by omega)) rfl rfl ?_
 refine Zn (GE.blockN (Zt (Zr ?_)))
 refine Zm rfl (Zd (OD.addI rfl rfl rfl (by first | omega | (simp only[List.length_set,List.length_replicate];omega))) rfl ?_)
 exact Za rfl (Zn (Yg (i+1,ys.set i ((ys.getD i 0*(k%ap)).tmod ap)) (⟨by omega,by rw[hg,hy];exact PD _ (by omega)⟩) [] 0))
 replace hc6:=of_decide_eq_false hc6
 refine GC.exit (Zp (Zp (GE.hit (Zt (Zs (Zr ?_))))))
 refine Zd (Qa Ah 0 [_,_,_,_]) rfl ?_
 refine Yu Ah [J (ap),J (ar),J (ac),v3] 2 (Ad rfl (Ad rfl (Ad rfl (Ad (Ab.one hs4) rfl)))) ?_
 refine Zn (Zt (GC.ret ?_))
 exact GE.body [1] 3 (AZ rfl (RVs.cons (Ag Ah rfl (i:=2) rfl rfl) RVs.nil) rfl) rfl (⟨v3,rfl,hs4,congrArg (fun l0=>ints 3 v3 l0::own) ((by rw[hy];exact PW _ (by omega):ys=((ad:List Int)).map (fun x=>(x*(k%ap)).tmod ap)))⟩)
end Go.Proofs.YtbmnnbglipkidaaGreatDoor
