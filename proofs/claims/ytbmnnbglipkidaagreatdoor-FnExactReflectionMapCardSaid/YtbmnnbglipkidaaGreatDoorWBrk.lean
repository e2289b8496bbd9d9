/-
  Brackets with one element: contracts by walks.
-/
import Derived.Test.YtbmnnbglipkidaaGreatDoorZ45
namespace Go.Proofs.YtbmnnbglipkidaaGreatDoor
set_option maxRecDepth 100000
set_option maxHeartbeats 4000000
set_option linter.unusedVariables false
set_option linter.unusedSimpArgs false
open Go.RowKit
theorem Lk:TI Tryz.prog 98 true 3 (.agg #[J (0),J (0),.slice none 0 0]) [(0,1),(1,1),(2,1)]:=⟨fun w=>by kernel_rfl,by kernel_rfl,fun _=>⟨_,Tryz.underlying98,fun w=>by kernel_rfl⟩⟩
theorem Uk:∀ (b k:Nat) w,(Instr.fieldAt 98 (.pointer (some ⟨b,k,none⟩)) 0).run Tryz.prog w = .ok (.pointer (some ⟨b,k+0,none⟩)) w:=fun b k w=>by kernel_rfl
theorem GF:∀ (b k:Nat) w,(Instr.fieldAt 98 (.pointer (some ⟨b,k,none⟩)) 1).run Tryz.prog w = .ok (.pointer (some ⟨b,k+1,none⟩)) w:=fun b k w=>by kernel_rfl
theorem aI:∀ (b k:Nat) w,(Instr.fieldAt 98 (.pointer (some ⟨b,k,none⟩)) 2).run Tryz.prog w = .ok (.pointer (some ⟨b,k+2,none⟩)) w:=fun b k w=>by kernel_rfl
theorem c6:∀ us w,(callFunc 132 us).run Tryz.prog w = .ok (.enter 132 us) w:=fun us w=>by kernel_rfl
theorem PO:∀ us w,(callFunc 148 us).run Tryz.prog w = .ok (.enter 148 us) w:=fun us w=>by kernel_rfl
theorem E6:∀ us w,(callFunc 166 us).run Tryz.prog w = .ok (.enter 166 us) w:=fun us w=>by kernel_rfl
theorem cA:∀ us w,(callFunc 174 us).run Tryz.prog w = .ok (.enter 174 us) w:=fun us w=>by kernel_rfl
theorem bf:∀ us w,(callFunc 175 us).run Tryz.prog w = .ok (.enter 175 us) w:=fun us w=>by kernel_rfl
theorem Vb {W:World}{own:List Asn}{ap:Int}{an:Int}{vad:Value}{ad:List Int}(sad:Ab vad)(ead:Ent own fun w=>Ints w vad ad):Spec Tryz.prog 85 [.agg #[J (ap),J (an),vad]] W own (fun v ow=>v = .agg #[J (ap),J (an),vad]∧ow=own):=by
 refine Spec.enter Tryz.f85 _ Tryz.func85 rfl (n:=10) rfl rfl ?_
 refine Zs (Zr (Yt (OG.box (cs:=[J (ap),J (an),vad]) rfl rfl rfl) ?_))
 rintro _ _ ⟨g1,rfl,rfl⟩
 refine Yt (OG.alloc rfl Lk (zs:=[J (0),J (0),.slice none 0 0]) rfl) ?_
 rintro _ _ ⟨g2,rfl,rfl⟩
 refine Zn (Zt (Zs (Zr (Zd (Qf G8) rfl ?_))))
 refine Zd (Ql Ak 1) rfl ?_
 refine Zd (Qf Cv) rfl ?_
 refine Zd (Ql Ak 1) rfl ?_
 refine Zd (Qf GH) rfl ?_
 refine Zd (Ql AH 1) rfl ?_
 refine Zd (OD.build (idx:=[0,1,2]) (xs:=[.tmp 4,.tmp 6,.tmp 8]) (vs:=[J (ap),J (an),vad]) (cs:=[[J (ap)],[J (an)],[vad]]) (zs:=[J (0),J (0),.slice none 0 0]) (r:=[J (ap),J (an),vad]) rfl Lk rfl rfl rfl ⟨rfl,⟨rfl,⟨(AN (Ab.one sad)),trivial⟩⟩⟩ rfl) rfl ?_
 refine Yu Lk [J (ap),J (an),vad] 0 (Ad rfl (Ad rfl (Ad (Ab.one sad) rfl))) ?_
 refine Zn (Zt (GC.ret ?_))
 exact GE.body [] 2 (AZ rfl (RVs.cons (Ag Lk rfl (i:=0) rfl rfl) RVs.nil) rfl) rfl (⟨rfl,rfl⟩)
theorem bX {W:World}{own:List Asn}{xp:Int}{xn:Int}{vxt:Value}{xt:List Int}{i:Nat}{j:Nat}(sxt:Ab vxt)(ext:Ent own fun w=>Ints w vxt xt){N:Nat}(hxn:xn=(N:Int))(h28:N≤28)(hi:i<N)(hj:j<N)(hl:xt.length=N*N*N):Spec Tryz.prog 175 [.agg #[J (xp),J (xn),vxt],J ((i:Int)),J ((j:Int))] W own (fun v ow=>v=Cc 1 vxt ((i*N+j)*N) ((i*N+j)*N+N)∧ow=own):=by
 obtain⟨⟨ht1,ht2⟩,ht3,ht4,ht5⟩:=dU hxn h28 hi hj
 refine Spec.enter Tryz.f175 _ Tryz.func175 rfl (n:=25) rfl rfl ?_
 refine Zs (Zr (Yt (OG.box (cs:=[J (xp),J (xn),vxt]) rfl rfl rfl) ?_))
 rintro _ _ ⟨g1,rfl,rfl⟩
 refine Za rfl (Zn (Zt (Zs (Zr (Zm rfl (Zd (Qf GF) rfl ?_))))))
 refine Zd (Ql Ak 0) rfl ?_
 refine Zd Qm rfl ?_
 refine Zm rfl (Zd Qp rfl ?_)
 refine Zd (Qf GF) rfl ?_
 refine Zd (Ql Ak 0) rfl ?_
 refine Zd (OD.eqv Qm (congrArg (Value.int .i64) ((ht3):((((i:Int)*xn)+(j:Int))*xn:Int)=((((i*N+j)*N:Nat):Int))))) rfl ?_
 refine Za rfl (Zn (Zt (Zs (Zr (Zd (Qf aI) rfl ?_)))))
 refine Zd (Ql AH 0) rfl ?_
 refine Zm rfl (Zm rfl (Zd (Qf GF) rfl ?_))
 refine Zd (Ql Ak 0) rfl ?_
 refine Zd (OD.eqv Qp (congrArg (Value.int .i64) ((by omega):((((i*N+j)*N:Nat):Int)+xn:Int)=((((i*N+j)*N+N:Nat):Int))))) rfl ?_
 refine Zd (OD.sliceSl rfl Ac rfl rfl rfl (Ent.drop 1 ext) (by omega)) rfl ?_
 refine Za rfl (Zn (Zt (GC.ret ?_)))
 exact GE.body [] 1 (Ao rfl rfl) rfl (⟨rfl,rfl⟩)
theorem Uq {W:World}{own:List Asn}{vx:Value}{x:List Int}{f:Int}{vy:Value}{y:List Int}{p:Int}(sx:Ab vx)(sy:Ab vy)(ey:Ent own fun w=>Ints w vy y)(hp:1≤p∧p≤10007)(hl:y.length=x.length)(hlb:x.length≤1073741824)(hf:0≤f∧f≤10007)(hx:Rg p x)(hyr:Rg p y):Spec Tryz.prog 148 [vx,J (f),vy,J (p)] W (ints 3 vx x::own) (fun v ow=>v = .tuple #[]∧ow=ints 3 vx (addF f p x y)::own):=by
 refine Spec.enter Tryz.f148 _ Tryz.func148 rfl (n:=31) rfl rfl ?_
 refine Zs (Zr (Zm rfl (Zd (Qn Ac (Ent.drop 1 ey)) rfl ?_)))
 refine Zm rfl (Zn (Zt (GC.block ?_)))
 refine Yl (ι:=Nat × List Int) (fun⟨k,ys⟩=>[(0,vx),(1,J (f)),(3,J (p)),(10,vy),(11,J ((y.length:Nat))),(12,J ((k:Int)))]) (fun⟨k,ys⟩=>ints 3 vx ys::own) (fun⟨k,ys⟩=>(k≤y.length)∧(ys=addF f p x (y.take k))) (fun⟨k,ys⟩=>y.length - k) (0,x) (⟨by omega,by rw[List.take_zero,CZ]⟩) [] 0 ?_
 rintro⟨k,ys⟩ ⟨hk,hy⟩
 have hyl:ys.length=x.length:=by rw[hy,BF]
 have hyg:Rg p ys:=by rw[hy];exact DM (by omega) hx
 have hyk:=hyg k
 have hrk:=hyr k
 have hm:=BH (A:=10007) (B:=10007) hf (show 0≤y.getD k 0∧y.getD k 0≤10007 by omega)
 have hm2:0≤f*y.getD ((k:Int)).toNat 0∧f*y.getD ((k:Int)).toNat 0≤10007*10007:=hm
 have hyk2:0≤ys.getD ((k:Int)).toNat 0∧ys.getD ((k:Int)).toNat 0<p:=hyk
 refine Zs (Zr (Zd Bb rfl ?_))
 refine Zn (Zt (Zs ?_))
 refine GC.cond rfl (fun hc1=>?_) (fun hc1=>?_)
 replace hc1:=of_decide_eq_true hc1
 refine Zk (Zt (Zs (GC.block (Zs (Zr ?_)))))
 refine Zm rfl (Zd (Qi Ac (Ent.drop 1 ey)) rfl ?_)
 refine Zd (Qv Ak (Ent.drop 1 ey)) rfl ?_
 refine Za rfl (Za rfl (Zn (Zt (Zr (Zm rfl (Zm rfl (Zm rfl (Zm rfl (Zd (Qi Ac (Ei 0)) rfl ?_)))))))))
 refine Zd (Qv Ak (Ei 0)) rfl ?_
 refine Zm rfl (Zm rfl (Zd Qm rfl ?_))
 refine Zd Qp rfl ?_
 refine Zm rfl (Zd (OD.eqv (OD.rem rfl rfl rfl (by omega)) (congrArg (Value.int .i64) ((Int.tmod_eq_emod_of_nonneg (by omega)):(((ys.getD (k) 0)+(f*(y.getD (k) 0))).tmod p:Int)=(((ys.getD k 0+f*y.getD k 0)%p))))) rfl ?_)
 refine Zd (Qi Ac (Ei 0)) rfl ?_
 refine G.stepD0 (OD.storeInt rfl Ak rfl rfl (i:=0) rfl (by omega)) rfl rfl ?_
 refine Zn (GE.blockN (Zt (Zr ?_)))
 refine Zd (OD.addI rfl rfl rfl (by first | omega | (simp only[List.length_set,List.length_replicate];omega))) rfl ?_
 exact Zm rfl (Zn (Yg (k+1,ys.set k ((ys.getD k 0+f*y.getD k 0)%p)) (⟨by omega,by rw[hy,QW (by omega) (by omega)]⟩) [] 0))
 replace hc1:=of_decide_eq_false hc1
 refine GC.exit (Zp (Zp (GE.hit ?_)))
 exact GE.bodyN [] 0 (UN rfl) rfl (⟨rfl,congrArg (fun l0=>ints 3 vx l0::own) ((by rw[hy,List.take_of_length_le (by omega)]:ys=addF f p x y))⟩)
theorem XU {W:World}{own:List Asn}{xp:Int}{xn:Int}{vxt:Value}{xt:List Int}{vu:Value}{u:List Int}{j:Nat}(sxt:Ab vxt)(ext:Ent own fun w=>Ints w vxt xt)(su:Ab vu)(eu:Ent own fun w=>Ints w vu u){N:Nat}(hxn:xn=(N:Int))(hT:TbR xp N xt)(hj:j<N)(hul:u.length=N)(hu:∀ i,0≤u.getD i 0∧u.getD i 0≤10007):Spec Tryz.prog 146 [.agg #[J (xp),J (xn),vxt],vu,J ((j:Int))] W own (fun v ow=>∃ (r0:Value),v=r0∧Ab r0∧ow=ints 3 r0 (Nn xp N xt u j N)::own):=by
 have h28:=hT.hn
 have hpp:=hT.hp
 have hl:=hT.len
 refine Spec.enter Tryz.f146 _ Tryz.func146 rfl (n:=33) rfl rfl ?_
 refine Zs (Zr (Yt (OG.box (cs:=[J (xp),J (xn),vxt]) rfl rfl rfl) ?_))
 rintro _ _ ⟨g1,rfl,rfl⟩
 refine Za rfl (Zn (Zt (Zs (Zr (Zd (Qf GF) rfl ?_)))))
 refine Zd (Ql Ak 0) rfl ?_
 refine Yt (OG.makeInts rfl Ac rfl rfl (by omega)) ?_
 rintro v2 _ ⟨hs3,rfl⟩
 refine Za rfl (Zn (Zt (Zs (Zs (Zr (Zm rfl (Zd (Qn Ac (Ent.drop 2 eu)) rfl ?_)))))))
 refine Zm rfl (Zn (Zt (GC.block ?_)))
 refine GC.ownEq (own':=ints 3 v2 (Nn xp N xt u j 0)::box g1 98 [J (xp),J (xn),vxt]::own) (by rw[hxn];rfl) ?_
 refine Yl (ι:=Nat) (fun i=>[(2,J ((j:Int))),(3,Pg g1 0),(7,v2),(13,vu),(14,J ((u.length:Nat))),(15,J ((i:Int)))]) (fun i=>ints 3 v2 (Nn xp N xt u j i)::box g1 98 [J (xp),J (xn),vxt]::own) (fun i=>(i≤u.length)) (fun i=>u.length - i) 0 (by omega) [] 0 ?_
 rintro i hi
 obtain⟨hrl,hrr⟩:=rtK_ok (u:=u) (j:=j) hT i
 refine Zs (Zr (Zd Bb rfl ?_))
 refine Zn (Zt (Zs ?_))
 refine GC.cond rfl (fun hc4=>?_) (fun hc4=>?_)
 replace hc4:=of_decide_eq_true hc4
 refine Zk (Zt (Zs (GC.block (Zs (Zr ?_)))))
 refine Zm rfl (Zd (Qi Ac (Ent.drop 2 eu)) rfl ?_)
 refine Zd (Qv Ak (Ent.drop 2 eu)) rfl ?_
 refine Za rfl (Za rfl (Zn (Zt (Zs (Zr (Zm rfl (Zd EK rfl ?_)))))))
 refine Zn (Zt ?_)
 refine GC.cond rfl (fun hc5=>?_) (fun hc5=>?_)
 replace hc5:=AA hc5
 have ht5:=fP (n:=N) (show i<N by omega) hj
 have hu1:0≤u.getD ((i:Int)).toNat 0∧u.getD ((i:Int)).toNat 0≤10007:=hu i
 refine Ya [(2,_),(3,_),(7,_),(13,_),(14,_),(15,_),(8,_),(9,_)] ?_
 refine Wp [Z0 22 v2,Z0 23 (J (u.getD (i) 0)),Z0 24 (.agg #[J (xp),J (xn),vxt]),Z0 25 (J ((i:Int))),Z0 26 (J ((j:Int))),Z1 27 [(2,24),(3,25),(4,26)] ((Cc 1 vxt ((i*N+j)*N) ((i*N+j)*N+N))),Z0 28 (Pg g1 0),Z1 29 [(6,28)] (J (xp))] (Yv (Yv (Zc (fun _ _ _=>Zq (Qa Lk 1 [_,_,_]) rfl) (Yv (Yv (Zc (fun _ _ _=>Zq (Yc [.agg #[J (xp),J (xn),vxt],J ((i:Int)),J ((j:Int))] bf (by exact(bX sxt (Ent.drop 2 ext.app) (N:=N) (hxn) (h28) (by omega) (hj) (hl)))) rfl) (Zc (fun _ _ _=>Zq (Qf Uk) rfl) (Zc (fun _ _ _=>Zq (Ql Ak 1) rfl) As.nil)))))))) ?_
 intro θ _
 refine Yb [(2,_),(3,_),(7,_),(13,_),(14,_),(15,_),(22,v2),(23,J (u.getD (i) 0)),(27,(Cc 1 vxt ((i*N+j)*N) ((i*N+j)*N+N))),(29,J (xp))] (_::_) ?_
 show G _ _ _ [_] _ _ _ _
 refine Yt (Yc [v2,J (u.getD (i) 0),(Cc 1 vxt ((i*N+j)*N) ((i*N+j)*N+N)),J (xp)] PO (by exact(Uq hs3 (Ow sxt) (Ent.subInts (Ent.drop 1 ext) (by omega)) (by omega) (by rw[MM rfl];exact(H4 hT (by omega) hj).trans hrl.symm) (by omega) (hu i) (hrr) (by rw[MM rfl];exact TL hT)))) ?_
 rintro _ _ ⟨rfl,rfl⟩
 refine Zn (GE.blockN (Zt (Zr ?_)))
 refine Zd Qp rfl ?_
 refine Zm rfl (Zn (GE.ownEq (own':=ints 3 v2 (Nn xp N xt u j (i+1))::box g1 98 [J (xp),J (xn),vxt]::own) (by rw[K7,YZ,if_neg (show u.getD i 0≠0 from hc5),MM rfl] <;> rfl) ?_))
 exact Yg (i+1) (by omega) [] 0
 replace hc5:=Al hc5
 have ht5:=fP (n:=N) (show i<N by omega) hj
 have hu1:0≤u.getD ((i:Int)).toNat 0∧u.getD ((i:Int)).toNat 0≤10007:=hu i
 refine Zk (GE.blockN (Zt (Zr ?_)))
 refine Zd Qp rfl ?_
 refine Zm rfl (Zn (GE.ownEq (own':=ints 3 v2 (Nn xp N xt u j (i+1))::box g1 98 [J (xp),J (xn),vxt]::own) (by rw[K7,YZ,if_pos (show u.getD i 0=0 from hc5)] <;> rfl) ?_))
 exact Yg (i+1) (by omega) [] 0
 replace hc4:=of_decide_eq_false hc4
 refine GC.exit (Zp (Zp (GE.hit (Zt (Zs (Zr ?_))))))
 refine Zm rfl (Za rfl (Zn (Zt (GC.ret ?_))))
 exact GE.body [0] 1 (Ao rfl rfl) rfl (⟨v2,rfl,hs3,congrArg (fun l0=>ints 3 v2 l0::own) ((by rw[show i=N by omega]:Nn xp N xt u j i=Nn xp N xt u j N))⟩)
theorem ZA {W:World}{own:List Asn}{xp:Int}{xn:Int}{vxt:Value}{xt:List Int}{i:Nat}{j:Nat}{k:Nat}(sxt:Ab vxt)(ext:Ent own fun w=>Ints w vxt xt){N:Nat}(hxn:xn=(N:Int))(h28:N≤28)(hi:i<N)(hj:j<N)(hl:xt.length=N*N*N)(hk:k<N):Spec Tryz.prog 174 [.agg #[J (xp),J (xn),vxt],J ((i:Int)),J ((j:Int)),J ((k:Int))] W own (fun v ow=>v=J (xt.getD ((i*N+j)*N+k) 0)∧ow=own):=by
 obtain⟨⟨ht1,ht2⟩,ht3,ht4,ht5⟩:=dU hxn h28 hi hj
 refine Spec.enter Tryz.f174 _ Tryz.func174 rfl (n:=24) rfl rfl ?_
 refine Zs (Zr (Yt (OG.box (cs:=[J (xp),J (xn),vxt]) rfl rfl rfl) ?_))
 rintro _ _ ⟨g1,rfl,rfl⟩
 refine Za rfl (Zn (Zt (Zs (Zr (Zd (Qf GH) rfl ?_)))))
 refine Zd (Ql AH 0) rfl ?_
 refine Zm rfl (Zd (Qf Cv) rfl ?_)
 refine Zd (Ql Ak 0) rfl ?_
 refine Zd Qm rfl ?_
 refine Zm rfl (Zd Qp rfl ?_)
 refine Zd (Qf Cv) rfl ?_
 refine Zd (Ql Ak 0) rfl ?_
 refine Zd (OD.eqv Qm (congrArg (Value.int .i64) ((ht3):((((i:Int)*xn)+(j:Int))*xn:Int)=((((i*N+j)*N:Nat):Int))))) rfl ?_
 refine Zm rfl (Zd (OD.eqv Qp (congrArg (Value.int .i64) ((by omega):((((i*N+j)*N:Nat):Int)+(k:Int):Int)=((((i*N+j)*N+k:Nat):Int))))) rfl ?_)
 refine Zd (Qi Ac (Ent.drop 1 ext)) rfl ?_
 refine Zd (Qv Ak (Ent.drop 1 ext)) rfl ?_
 refine Za rfl (Zn (Zt (GC.ret ?_)))
 exact GE.body [] 1 (Ao rfl rfl) rfl (⟨rfl,rfl⟩)
theorem SE {W:World}{own:List Asn}{p:Int}{vy:Value}{y:List Int}{n:Int}{vx:Value}{x:List Int}(sy:Ab vy)(ey:Ent own fun w=>Ints w vy y)(sx:Ab vx)(ex:Ent own fun w=>Ints w vx x)(hp:1≤p∧p≤1000000)(hn : -1≤n∧n≤1)(hyl:y.length=x.length)(hy:∀ k,y.getD k 0=0)(hl:x.length≤64)(hx:∀ k,0≤x.getD k 0∧x.getD k 0≤10007):Spec Tryz.prog 132 [J (p),vy,J (n),vx] W own (fun v ow=>∃ (r0:Value),v=r0∧Ab r0∧ow=ints 3 r0 (Lx p n x)::own):=by
 refine Spec.enter Tryz.f132 _ Tryz.func132 rfl (n:=37) rfl rfl ?_
 refine Zs (Zr (Za rfl (Zn (Zt (Zs (Zr (Zm rfl (Zd (Qn Ac ey) rfl ?_))))))))
 refine Yt (OG.makeInts rfl Ac rfl rfl (by omega)) ?_
 rintro v1 _ ⟨hs2,rfl⟩
 refine Za rfl (Zn (Zt (Zs (Zs (Zr (Za rfl (Zn (Zt (GC.block ?_)))))))))
 refine Yl (ι:=Nat × List Int) (fun⟨k,zs⟩=>[(0,J (p)),(1,vy),(2,J (n)),(3,vx),(9,v1),(10,J ((k:Int)))]) (fun⟨k,zs⟩=>ints 3 v1 zs::own) (fun⟨k,zs⟩=>(k≤x.length)∧(zs=(x.take k).map (fun v=>(0+n*v)%p)++List.replicate (x.length - k) 0)) (fun⟨k,zs⟩=>x.length - k) (0,(List.replicate (((y.length:Nat):Int)).toNat 0)) (⟨by omega,by rw[hyl];simp⟩) [] 0 ?_
 rintro⟨k,zs⟩ ⟨hk,hz⟩
 have hzl:zs.length=x.length:=by rw[hz];simp;omega
 refine Zs (Zs (Zr (Zm rfl (Zm rfl (Zd (Qn Ac (Ent.drop 1 ey)) rfl ?_)))))
 refine Zd Bb rfl ?_
 refine Zn (Zt ?_)
 refine GC.cond rfl (fun hc3=>?_) (fun hc3=>?_)
 replace hc3:=of_decide_eq_true hc3
 have hy0:=hy k
 have hx0:=hx k
 have hm:n*x.getD k 0=x.getD k 0∨n*x.getD k 0=0∨n*x.getD k 0 = - x.getD k 0:=by rcases(show n=1∨n=0∨n = -1 by omega) with e | e | e <;> rw[e] <;> omega
 have hy02:y.getD ((k:Int)).toNat 0=0:=hy0
 have hm2 : -10007≤n*x.getD ((k:Int)).toNat 0∧n*x.getD ((k:Int)).toNat 0≤10007:=(show -10007≤n*x.getD k 0∧n*x.getD k 0≤10007 by omega)
 refine Zk (Zt (Zs (GC.block ?_)))
 refine Ya [(0,_),(1,_),(2,_),(3,_),(9,_),(10,_)] ?_
 refine Wp [Z0 20 v1,Z0 21 (J ((k:Int))),Z0 22 vy,Z0 23 (J ((k:Int))),Z1 24 [(2,22),(3,23)] (Aa vy 1 (k)),Z1 25 [(4,24)] (J (y.getD (k) 0)),Z0 26 (J (n)),Z0 27 vx,Z0 28 (J ((k:Int))),Z1 29 [(7,27),(8,28)] (Aa vx 1 (k)),Z1 30 [(9,29)] (J (x.getD (k) 0)),Z1 31 [(6,26),(10,30)] (J (n*(x.getD (k) 0))),Z1 32 [(5,25),(11,31)] (J ((y.getD (k) 0)+(n*(x.getD (k) 0)))),Z0 33 (J (p)),Z1 34 [(12,32),(13,33)] (J (((y.getD (k) 0)+(n*(x.getD (k) 0)))%p)),Z1 35 [(0,20),(1,21)] (Aa v1 1 (k))] (Yv (Yv (Yv (Yv (Zc (fun _ _ _=>Zq (Qi Ac (Ent.drop 1 ey.app)) rfl) (Zc (fun _ _ _=>Zq (Qv Ak (Ent.drop 1 ey.app)) rfl) (Yv (Yv (Yv (Zc (fun _ _ _=>Zq (Qi Ac (Ent.drop 1 ex.app)) rfl) (Zc (fun _ _ _=>Zq (Qv Ak (Ent.drop 1 ex.app)) rfl) (Zc (fun _ _ _=>Zq Qm rfl) (Zc (fun _ _ _=>Zq Qp rfl) (Yv (Zc (fun _ _ _=>Zq (Yc [J ((y.getD (k) 0)+(n*(x.getD (k) 0))),J (p)] E6 (by exact(Fm (by omega)))) rfl) (Zc (fun _ _ _=>Zq (Qi Ac (Ei 0)) rfl) As.nil)))))))))))))))) ?_
 intro θ _
 refine Yb [(0,_),(1,_),(2,_),(3,_),(9,_),(10,_),(34,J (((y.getD (k) 0)+(n*(x.getD (k) 0)))%p)),(35,Aa v1 1 (k))] (_::_) ?_
 show G _ _ _ [_] _ _ _ _
 refine G.stepD0 (OD.storeInt rfl Ak rfl rfl (i:=0) rfl (by omega)) rfl rfl ?_
 refine Zn (GE.blockN (Zt (Zr ?_)))
 refine Zm rfl (Zd (OD.addI rfl rfl rfl (by first | omega | (simp only[List.length_set,List.length_replicate];omega))) rfl ?_)
 exact Za rfl (Zn (Yg (k+1,(zs).set (k) (((y.getD (k) 0)+(n*(x.getD (k) 0)))%p)) (⟨by omega,by rw[hy0,hz];exact VI (by omega)⟩) [] 0))
 replace hc3:=of_decide_eq_false hc3
 refine GC.exit (Zp (Zp (GE.hit (Zt (Zs (Zr ?_))))))
 refine Zm rfl (Za rfl (Zn (Zt (GC.ret ?_))))
 exact GE.body [] 0 (Ao rfl rfl) rfl (⟨v1,rfl,hs2,congrArg (fun l0=>ints 3 v1 l0::own) ((by rw[hz,show k=x.length by omega];simp[Lx]:zs=Lx p n x))⟩)
theorem My {W:World}{own:List Asn}{p:Int}{n:Int}{vx:Value}{x:List Int}(sx:Ab vx)(ex:Ent own fun w=>Ints w vx x)(hp:1≤p∧p≤1000000)(hn : -1≤n∧n≤1)(hl:x.length≤64)(hx:∀ k,0≤x.getD k 0∧x.getD k 0≤10007):Spec Tryz.prog 79 [J (p),J (n),vx] W own (fun v ow=>∃ (r0:Value),v=r0∧Ab r0∧ow=ints 3 r0 (Lx p n x)::own):=by
 refine Spec.enter Tryz.f79 _ Tryz.func79 rfl (n:=14) rfl rfl ?_
 refine Zs (Zr (Za rfl (Zn (Zt (Zs (Zr (Zm rfl (Zm rfl (Zd (Qn Ac ex) rfl ?_)))))))))
 refine Yt (OG.makeInts rfl Ac rfl rfl (by omega)) ?_
 rintro v1 _ ⟨hs2,rfl⟩
 refine Zm rfl (Zm rfl ?_)
 refine Yt (Yc [J (p),v1,J (n),vx] c6 (by exact(SE hs2 (Ei 0) sx (Ent.drop 1 ex) (hp) (hn) (by simp) (fun k=>by simp[List.getD,List.getElem?_replicate];split <;> rfl) (hl) (hx)))) ?_
 rintro v3 _ ⟨_,rfl,hs4,rfl⟩
 refine Za rfl (Zn (Zt (GC.ret ?_)))
 exact GE.body [0] 1 (Ao rfl rfl) rfl (⟨v3,rfl,hs4,rfl⟩)
theorem NO {W:World}{own:List Asn}{ap:Int}{an:Int}{vad:Value}{ad:List Int}{vx:Value}{x:List Int}{vy:Value}{y:List Int}(sad:Ab vad)(ead:Ent own fun w=>Ints w vad ad)(sx:Ab vx)(ex:Ent own fun w=>Ints w vx x)(sy:Ab vy)(ey:Ent own fun w=>Ints w vy y){N:Nat}(hxn:an=(N:Int))(hT:TbR ap N ad)(hxl:x.length=N)(hyl:y.length=N)(hx:∀ i,0≤x.getD i 0∧x.getD i 0≤10007)(hy:∀ i,0≤y.getD i 0∧y.getD i 0≤10007):Spec Tryz.prog 139 [.agg #[J (ap),J (an),vad],vx,vy] W own (fun v ow=>∃ (r0:Value),v=r0∧Ab r0∧ow=ints 3 r0 (FL ap N ad x y N)::own):=by
 have h28:=hT.hn
 have hpp:=hT.hp
 have hl:=hT.len
 refine Spec.enter Tryz.f139 _ Tryz.func139 rfl (n:=72) rfl rfl ?_
 refine Zs (Zr (Yt (OG.box (cs:=[J (ap),J (an),vad]) rfl rfl rfl) ?_))
 rintro _ _ ⟨g1,rfl,rfl⟩
 refine Za rfl (Zn (Zt (Zs (Zr (Zd (Qf Cv) rfl ?_)))))
 refine Zd (Ql Ak 0) rfl ?_
 refine Za rfl (Zn (Zt (Zs (Zr (Zm rfl (Yt (OG.makeInts rfl Ac rfl rfl (by omega)) ?_))))))
 rintro v2 _ ⟨hs3,rfl⟩
 refine Za rfl (Zn (Zt (Zs (Zs (Zr (Za rfl (Zn (Zt (GC.block ?_)))))))))
 refine GC.ownEq (own':=ints 3 v2 (FL ap N ad x y 0)::box g1 43 [J (ap),J (an),vad]::own) (by rw[hxn];rfl) ?_
 refine Yl (ι:=Nat) (fun i=>[(1,vx),(2,vy),(3,Pg g1 0),(7,J (an)),(8,v2),(9,J ((i:Int)))]) (fun i=>ints 3 v2 (FL ap N ad x y i)::box g1 43 [J (ap),J (an),vad]::own) (fun i=>(i≤N)) (fun i=>N - i) 0 (by omega) [] 0 ?_
 rintro i hi
 have hK:=M3 (x:=x) (y:=y) hT i
 refine Zs (Zs (Zr (Zm rfl (Zm rfl (Zd Bb rfl ?_)))))
 refine Zn (Zt ?_)
 refine GC.cond rfl (fun hc4=>?_) (fun hc4=>?_)
 replace hc4:=of_decide_eq_true hc4
 refine Zk (Zt (Zs (GC.block (Zs (Zs (Zr ?_))))))
 refine Zm rfl (Zm rfl (Zd (Qi Ac (Ent.drop 2 ex)) rfl ?_))
 refine Zd (Qv Ak (Ent.drop 2 ex)) rfl ?_
 refine Zd FJ rfl ?_
 refine Zn (Zt ?_)
 refine GC.cond rfl (fun hc5=>?_) (fun hc5=>?_)
 replace hc5:=eq_of_beq hc5
 refine GC.exit (Zp (GE.hit (Zt (Zr ?_))))
 refine Zm rfl (Zd Qp rfl ?_)
 refine Za rfl (Zn (GE.ownEq (own':=ints 3 v2 (FL ap N ad x y (i+1))::box g1 43 [J (ap),J (an),vad]::own) (by rw[Kj,aW,if_pos (show x.getD i 0=0 from hc5)] <;> rfl) ?_))
 exact Yg (i+1) (by omega) [] 0
 replace hc5:=ne_of_beq_false hc5
 refine Zk (Zt (Zs (Zr (Za rfl (Zn (Zt (GC.block ?_)))))))
 refine GC.ownEq (own':=ints 3 v2 (Np ap N ad y (x.getD i 0) i (FL ap N ad x y i) 0)::box g1 43 [J (ap),J (an),vad]::own) (rfl) ?_
 refine Yl (ι:=Nat) (fun j=>[(1,vx),(2,vy),(3,Pg g1 0),(7,J (an)),(8,v2),(9,J ((i:Int))),(10,J ((j:Int)))]) (fun j=>ints 3 v2 (Np ap N ad y (x.getD i 0) i (FL ap N ad x y i) j)::box g1 43 [J (ap),J (an),vad]::own) (fun j=>(j≤N)) (fun j=>N - j) 0 (by omega) [] 0 ?_
 rintro j hj
 have hI:=K9 (y:=y) (xi:=x.getD i 0) (i:=i) hT hK j
 refine Zs (Zs (Zr (Zm rfl (Zm rfl (Zd Bb rfl ?_)))))
 refine Zn (Zt ?_)
 refine GC.cond rfl (fun hc6=>?_) (fun hc6=>?_)
 replace hc6:=of_decide_eq_true hc6
 have hxi:=hx i
 have hyj:=hy j
 have hm:=BH (A:=10007) (B:=10007) hxi hyj
 have hm2:0≤x.getD ((i:Int)).toNat 0*y.getD ((j:Int)).toNat 0∧x.getD ((i:Int)).toNat 0*y.getD ((j:Int)).toNat 0≤10007*10007:=hm
 have hcc:0≤((x.getD i 0*y.getD j 0).tmod ap)∧((x.getD i 0*y.getD j 0).tmod ap)≤10007:=⟨Int.tmod_nonneg _ hm.1,by have:=Int.tmod_lt_of_pos (x.getD i 0*y.getD j 0) (show 0<ap by omega);omega⟩
 refine Zk (Zt (Zs (GC.block (Zs ?_))))
 refine Ya [(1,_),(2,_),(3,_),(7,_),(8,_),(9,_),(10,_)] ?_
 refine Wp [Z0 32 vx,Z0 33 (J ((i:Int))),Z1 34 [(0,32),(1,33)] (Aa vx 1 (i)),Z1 35 [(2,34)] (J (x.getD (i) 0)),Z0 36 vy,Z0 37 (J ((j:Int))),Z1 38 [(4,36),(5,37)] (Aa vy 1 (j)),Z1 39 [(6,38)] (J (y.getD (j) 0)),Z1 40 [(3,35),(7,39)] (J ((x.getD (i) 0)*(y.getD (j) 0))),Z0 41 (Pg g1 0),Z1 42 [(9,41)] (J (ap)),Z1 43 [(8,40),(10,42)] (J (((x.getD (i) 0)*(y.getD (j) 0)).tmod ap))] (Yv (Yv (Zc (fun _ _ _=>Zq (Qi Ac (Ent.drop 2 ex.app)) rfl) (Zc (fun _ _ _=>Zq (Qv Ak (Ent.drop 2 ex.app)) rfl) (Yv (Yv (Zc (fun _ _ _=>Zq (Qi Ac (Ent.drop 2 ey.app)) rfl) (Zc (fun _ _ _=>Zq (Qv Ak (Ent.drop 2 ey.app)) rfl) (Zc (fun _ _ _=>Zq Qm rfl) (Zc (fun _ _ _=>Zq (Qf G8) rfl) (Zc (fun _ _ _=>Zq (Ql Ak 1) rfl) (Zc (fun _ _ _=>Zq (OD.rem rfl rfl rfl (by omega)) rfl) As.nil)))))))))))) ?_
 intro θ _
 refine Yb [(1,_),(2,_),(3,_),(7,_),(8,_),(9,_),(10,_),(43,J (((x.getD (i) 0)*(y.getD (j) 0)).tmod ap))] (_::_) ?_
 show G _ _ _ [_] _ _ _ _
 refine Za rfl (Zn (Zt (Zs (Zr (Za rfl (Zn (Zt (GC.block ?_))))))))
 refine GC.ownEq (own':=ints 3 v2 (addF ((x.getD i 0*y.getD j 0).tmod ap) ap (Np ap N ad y (x.getD i 0) i (FL ap N ad x y i) j) ((Hv N ad i j).take 0))::box g1 43 [J (ap),J (an),vad]::own) (by rw[List.take_zero,CZ] <;> rfl) ?_
 refine Yl (ι:=Nat) (fun k=>[(1,vx),(2,vy),(3,Pg g1 0),(7,J (an)),(8,v2),(9,J ((i:Int))),(10,J ((j:Int))),(11,J (((x.getD (i) 0)*(y.getD (j) 0)).tmod ap)),(12,J ((k:Int)))]) (fun k=>ints 3 v2 (addF ((x.getD i 0*y.getD j 0).tmod ap) ap (Np ap N ad y (x.getD i 0) i (FL ap N ad x y i) j) ((Hv N ad i j).take k))::box g1 43 [J (ap),J (an),vad]::own) (fun k=>(k≤N)∧(((x.getD i 0*y.getD j 0).tmod ap)=0→k=0)) (fun k=>N - k) 0 (⟨by omega,fun _=>rfl⟩) [] 0 ?_
 rintro k ⟨hk,h0⟩
 have hz:=XO (C:=((x.getD i 0*y.getD j 0).tmod ap)) (k:=k) (y:=Hv N ad i j) (show 0<ap by omega) hI
 have hgt:=hT.rg ((i*N+j)*N+k)
 have hcg:=BH (A:=10007) (B:=10007) hcc (show 0≤ad.getD ((i*N+j)*N+k) 0∧ad.getD ((i*N+j)*N+k) 0≤10007 by omega)
 refine Zs (Zs (Zr (Zm rfl (Zm rfl (Zd Bb rfl ?_)))))
 refine Zm rfl ?_
 rcases Bool.eq_false_or_eq_true (decide ((k:Int)<an)) with hg7 | hg7
 have hg7e:=hg7
 rw[hg7e]
 replace hg7:=of_decide_eq_true hg7
 refine Yd (OD.move rfl rfl) ?_
 refine Yd EK ?_
 refine Zd (OD.pickT rfl rfl rfl) rfl ?_
 refine Zn (Zt ?_)
 refine GC.cond rfl (fun hc8=>?_) (fun hc8=>?_)
 replace hc8:=AA hc8
 refine Zk (Zt (Zs (GC.block ?_)))
 refine Ya [(1,_),(2,_),(3,_),(7,_),(8,_),(9,_),(10,_),(11,_),(12,_)] ?_
 refine Wp [Z0 53 v2,Z0 54 (J ((k:Int))),Z0 55 v2,Z0 56 (J ((k:Int))),Z1 57 [(2,55),(3,56)] (Aa v2 1 (k)),Z1 58 [(4,57)] (J ((addF ((x.getD i 0*y.getD j 0).tmod ap) ap (Np ap N ad y (x.getD i 0) i (FL ap N ad x y i) j) ((Hv N ad i j).take k)).getD (k) 0)),Z0 59 (J (((x.getD (i) 0)*(y.getD (j) 0)).tmod ap)),Z0 60 (.agg #[J (ap),J (an),vad]),Z0 61 (J ((i:Int))),Z0 62 (J ((j:Int))),Z0 63 (J ((k:Int))),Z1 64 [(7,60),(8,61),(9,62),(10,63)] (J (ad.getD ((i*N+j)*N+k) 0)),Z1 65 [(6,59),(11,64)] (J ((((x.getD (i) 0)*(y.getD (j) 0)).tmod ap)*(ad.getD ((i*N+j)*N+k) 0))),Z1 66 [(5,58),(12,65)] (J (((addF ((x.getD i 0*y.getD j 0).tmod ap) ap (Np ap N ad y (x.getD i 0) i (FL ap N ad x y i) j) ((Hv N ad i j).take k)).getD (k) 0)+((((x.getD (i) 0)*(y.getD (j) 0)).tmod ap)*(ad.getD ((i*N+j)*N+k) 0)))),Z0 67 (Pg g1 0),Z1 68 [(14,67)] (J (ap)),Z1 69 [(13,66),(15,68)] (J ((((addF ((x.getD i 0*y.getD j 0).tmod ap) ap (Np ap N ad y (x.getD i 0) i (FL ap N ad x y i) j) ((Hv N ad i j).take k)).getD (k) 0)+((((x.getD (i) 0)*(y.getD (j) 0)).tmod ap)*(ad.getD ((i*N+j)*N+k) 0))).tmod ap)),Z1 70 [(0,53),(1,54)] (Aa v2 1 (k))] (Yv (Yv (Yv (Yv (Zc (fun _ _ _=>Zq (Qi Ac (Ei 0)) rfl) (Zc (fun _ _ _=>Zq (Qv Ak (Ei 0)) rfl) (Yv (Zc (fun _ _ _=>Zq (Qa Bj 1 [_,_,_]) rfl) (Yv (Yv (Yv (Zc (fun _ _ _=>Zq (Yc [.agg #[J (ap),J (an),vad],J ((i:Int)),J ((j:Int)),J ((k:Int))] cA (by exact(ZA sad (Ent.drop 2 ead.app) (N:=N) (hxn) (h28) (by omega) (by omega) (hl) (by omega)))) rfl) (Zc (fun _ _ _=>Zq Qm rfl) (Zc (fun _ _ _=>Zq Qp rfl) (Zc (fun _ _ _=>Zq (Qf G8) rfl) (Zc (fun _ _ _=>Zq (Ql Ak 1) rfl) (Zc (fun _ _ _=>Zq (OD.rem rfl rfl rfl (by omega)) rfl) (Zc (fun _ _ _=>Zq (Qi Ac (Ei 0)) rfl) As.nil)))))))))))))))))) ?_
 intro θ _
 refine Yb [(1,_),(2,_),(3,_),(7,_),(8,_),(9,_),(10,_),(11,_),(12,_),(69,J ((((addF ((x.getD i 0*y.getD j 0).tmod ap) ap (Np ap N ad y (x.getD i 0) i (FL ap N ad x y i) j) ((Hv N ad i j).take k)).getD (k) 0)+((((x.getD (i) 0)*(y.getD (j) 0)).tmod ap)*(ad.getD ((i*N+j)*N+k) 0))).tmod ap)),(70,Aa v2 1 (k))] (_::_) ?_
 show G _ _ _ [_] _ _ _ _
 refine G.stepD0 (OD.storeInt rfl Ak rfl rfl (i:=0) rfl (by omega)) rfl rfl ?_
 refine Zn (GE.blockN (Zt (Zr ?_)))
 refine Zm rfl (Zd (OD.addI rfl rfl rfl (by first | omega | (simp only[List.length_set,List.length_replicate];omega))) rfl ?_)
 refine Za rfl (Zn (GE.ownEq (own':=ints 3 v2 (addF ((x.getD i 0*y.getD j 0).tmod ap) ap (Np ap N ad y (x.getD i 0) i (FL ap N ad x y i) j) ((Hv N ad i j).take (k+1)))::box g1 43 [J (ap),J (an),vad]::own) (by rw[← X0 hT (by omega) (by omega) (by omega) hcc.1 hI] <;> rfl) ?_))
 exact Yg (k+1) (⟨by omega,fun h=>absurd h (by assumption)⟩) [] 0
 replace hc8:=Al hc8
 refine GC.exit (Zp (Zp (GE.hit (GE.blockN (Zt (Zr ?_))))))
 refine Zm rfl (Zd Qp rfl ?_)
 refine Za rfl (Zn (GE.ownEq (own':=ints 3 v2 (Np ap N ad y (x.getD i 0) i (FL ap N ad x y i) (j+1))::box g1 43 [J (ap),J (an),vad]::own) (by rw[Ky,cJ,Um hT (by omega) (by omega) h0 (fun h=>by first | omega | exact absurd (by assumption) h)] <;> rfl) ?_))
 exact Yg (j+1) (by omega) [] 0
 have hg7e:=hg7
 rw[hg7e]
 replace hg7:=of_decide_eq_false hg7
 iterate 2 refine Yk ?_
 refine Zd (OD.pickF rfl rfl rfl) rfl ?_
 refine Zn (Zt (GC.condF rfl (GC.exit (Zp (Zp (GE.hit (GE.blockN (Zt (Zr ?_)))))))))
 refine Zm rfl (Zd Qp rfl ?_)
 refine Za rfl (Zn (GE.ownEq (own':=ints 3 v2 (Np ap N ad y (x.getD i 0) i (FL ap N ad x y i) (j+1))::box g1 43 [J (ap),J (an),vad]::own) (by rw[Ky,cJ,Um hT (by omega) (by omega) h0 (fun h=>by first | omega | exact absurd (by assumption) h)] <;> rfl) ?_))
 exact Yg (j+1) (by omega) [] 0
 replace hc6:=of_decide_eq_false hc6
 refine GC.exit (Zp (Zp (GE.hit (GE.blockN (Zt (Zr ?_))))))
 refine Zm rfl (Zd Qp rfl ?_)
 refine Za rfl (Zn (GE.ownEq (own':=ints 3 v2 (FL ap N ad x y (i+1))::box g1 43 [J (ap),J (an),vad]::own) (by rw[Kj,aW,if_neg (show ¬ x.getD i 0=0 from hc5),show j=N by omega] <;> rfl) ?_))
 exact Yg (i+1) (by omega) [] 0
 replace hc4:=of_decide_eq_false hc4
 refine GC.exit (Zp (Zp (GE.hit (Zt (Zs (Zr ?_))))))
 refine Zm rfl (Za rfl (Zn (Zt (GC.ret ?_))))
 exact GE.body [0] 1 (Ao rfl rfl) rfl (⟨v2,rfl,hs3,congrArg (fun l0=>ints 3 v2 l0::own) ((by rw[show i=N by omega]:FL ap N ad x y i=FL ap N ad x y N))⟩)
end Go.Proofs.YtbmnnbglipkidaaGreatDoor
