/-
  The coroots' lines of the table of a simple algebra, row by row. No program is spoken of.
-/
import Derived.Test.YtbmnnbglipkidaaGreatDoorWCnS
import Derived.Test.YtbmnnbglipkidaaGreatDoorWBrk
import Derived.Test.YtbmnnbglipkidaaGreatDoorWSmp
namespace Go.Proofs.YtbmnnbglipkidaaGreatDoor
set_option maxRecDepth 100000
set_option maxHeartbeats 4000000
set_option linter.unusedVariables false
set_option linter.unusedSimpArgs false
theorem GU {L:List (List Int)}{k:Nat}(hk:k<L.length):(L.take k).flatten++L.getD k []=(L.take (k+1)).flatten:=by
  rw[BU (d:=[]) hk,List.flatten_append]
  simp
theorem Mf {L:List (List Int)}{k:Nat}(hk:k<L.length):(L.take (k+1)).flatten.length=(L.take k).flatten.length+(L.getD k []).length:=by
  rw[← GU hk,List.length_append]
theorem HK {L:List (List Int)}(h:∀ k,k<L.length→(L.getD k []).length≤64):∀ k,k≤L.length→(L.take k).flatten.length≤64*k
  | 0,_=>by simp
  | k+1,hk=>by
    have h1:=HK h k (by omega)
    have h2:=h k (by omega)
    rw[Mf (by omega)]
    omega
theorem ON {L:List (List Int)}{k:Nat}(hk:k=L.length):(L.take k).flatten=L.flatten:=by rw[hk,List.take_length]
section
variable {n:Int}{d:List Int}{p:Int}{k:Nat}
theorem K1 (h:Bq n d p=true):(Ax n d).isSome=true∧AJ p=true∧smN n d≤28:=by
  simp only[Bq,Bool.and_eq_true,decide_eq_true_eq] at h
  exact⟨h.1,h.2.1,h.2.2⟩
end
def rfA (n:Int)(d:List Int)(x:List Int):Nat:=(l7I n (rSt n d) x).toNat
def dW (n:Int)(i:Int):List Int:=unitL n.toNat i.toNat
def B0 (n:Int)(d:List Int)(p i:Int):Mat:=⟨p,(smN n d:Nat),(smN n d:Nat),HV p (smN n d) (EG n d p) (unitL (smN n d) (rfA n d (dW n i)))⟩
def CS (n:Int)(d:List Int)(p i:Int):Mat:=⟨p,(smN n d:Nat),(smN n d:Nat),HV p (smN n d) (EG n d p) (Lx p (-1) (unitL (smN n d) (rfA n d (Av (dW n i)))))⟩
def OP (n:Int)(d:List Int)(p i:Int):Bool:=Bq n d p&&(decide (7≤p)&&BZ i 0 (n - 1))
def BD (n:Int)(d:List Int)(p i:Int):Bool:=OP n d p i&&(Bg (B0 n d p i)&&Bg (CS n d p i))
def gH (n:Int)(d:List Int)(p i:Int):List Int:=mulF p (smN n d:Nat) (smN n d:Nat) (smN n d:Nat) (mulF p (smN n d:Nat) (smN n d:Nat) (smN n d:Nat) (exF (B0 n d p i)).d (exF (CS n d p i)).d) (exF (B0 n d p i)).d
def F0 (n:Int)(d:List Int)(p i:Int):Int:=if BD n d p i then p else 0
def CO (n:Int)(d:List Int)(p i:Int):Int:=if BD n d p i then(smN n d:Nat) else 0
def rfD (n:Int)(d:List Int)(p i:Int):List Int:=if BD n d p i then gH n d p i else[]
section
variable {n:Int}{d:List Int}{p i:Int}
theorem VJ (h:Bq n d p=true):TbR p (smN n d) (EG n d p):=by
  obtain⟨hS,hPr,h28⟩:=K1 h
  have hp:=AU hPr
  refine⟨(Mv p).len,fun q=>?_,hp,h28⟩
  by_cases hq:q<(EG n d p).length
  · have hm:(EG n d p).getD q 0∈EG n d p:=by
      rw[List.getD,List.getElem?_eq_getElem hq]
      exact List.getElem_mem hq
    obtain⟨z,_,hz⟩:=List.mem_map.1 hm
    rw[← hz]
    exact⟨Int.emod_nonneg _ (by omega),Int.emod_lt_of_pos _ (by omega)⟩
  · rw[List.getD,List.getElem?_eq_none (by omega)]
    simp;omega
theorem H5 (hS:(Ax n d).isSome=true)(hi:0≤i∧i<n):rtB (rSt n d) (dW n i)=true∧rtB (rSt n d) (Av (dW n i))=true:=by
  have hr:=rtOk hS
  have hm:dW n i∈rSt n d:=hr.perm.mem_iff.2 ((FM hr.run).mem (List.mem_map.2 ⟨i.toNat,List.mem_range.2 (by omega),rfl⟩))
  refine⟨Au hm,?_⟩
  rw[rtB,Fh,AG.2 hm,Bool.or_true]
theorem Qy (hS:(Ax n d).isSome=true){x:List Int}(hx:rtB (rSt n d) x=true):rfA n d x<smN n d∧l7I n (rSt n d) x=(rfA n d x:Nat)∧fdI n (rSt n d).length (A7 n d) x=(rfA n d x:Nat):=by
  have h:=KG hS hx
  have hlo:=(rtOk hS).lo
  obtain⟨z1,z2,_⟩:=Aw hS hx
  have e:l7I n (rSt n d) x=(rfA n d x:Nat):=(Int.toNat_of_nonneg h.1).symm
  refine⟨by rw[rfA];omega,e,?_⟩
  rw[(rtOk hS).ri (DF hS hx),if_pos (O4 (by omega) z2),e]
theorem du (h:OP n d p i=true):Bq n d p=true∧7≤p∧0≤i∧i<n:=by
  simp only[OP,Bool.and_eq_true,decide_eq_true_eq] at h
  have:=AX h.2.2
  exact⟨h.1,h.2.1,by omega,by omega⟩
theorem Yj (n:Int)(d:List Int)(p i:Int):(rfD n d p i).length≤1600:=by
  unfold rfD
  split
  · rename_i h
    simp only[BD,Bool.and_eq_true] at h
    have h28:=(VJ (du h.1).1).hn
    have h2:smN n d*smN n d≤28*28:=Nat.mul_le_mul h28 h28
    rw[gH,Eh,← Int.natCast_mul]
    show smN n d*smN n d≤1600
    omega
  · simp
theorem VT {M:Mat}(h:Bg M=true):(exF M).p=M.p∧(exF M).r=M.r∧(exF M).c=M.r∧(exF M).d.length=(M.r*M.r).toNat:=by
  rw[exF,if_pos h]
  exact⟨rfl,rfl,rfl,Ng _⟩
theorem A8 (h:BD n d p i=false):F0 n d p i=0∧CO n d p i=0∧rfD n d p i = []:=by
  simp[F0,CO,rfD,h]
theorem Fb (h:BD n d p i=true):F0 n d p i=p∧CO n d p i=(smN n d:Nat)∧rfD n d p i=gH n d p i:=by
  simp[F0,CO,rfD,h]
theorem Ud {T:List Int}{m a:Nat}(h:TbR p m T)(hp:AJ p=true)(ha:a<m):AE ⟨p,m,m,HV p m T (unitL m a)⟩ (-1)=⟨p,m,m,HV p m T (Lx p (-1) (unitL m a))⟩:=by
  rw[← aA h ha]
  exact VV h hp ha
theorem O5 {m x:Nat}(h:x=((m:Int)*(m:Int)).toNat):(x:Int)=(m:Int)*(m:Int):=by
  rw[h,← Int.natCast_mul]
  rfl
theorem eE (h:Bg (B0 n d p i)=true):(exF (B0 n d p i)).p=p∧(exF (B0 n d p i)).r=(smN n d:Nat)∧(exF (B0 n d p i)).c=(smN n d:Nat)∧((exF (B0 n d p i)).d.length:Int)=(smN n d:Nat)*(smN n d:Nat):=by
  obtain⟨h1,h2,h3,h4⟩:=VT h
  exact⟨h1,h2,h3,O5 h4⟩
theorem eN (h:Bg (CS n d p i)=true):(exF (CS n d p i)).p=p∧(exF (CS n d p i)).r=(smN n d:Nat)∧(exF (CS n d p i)).c=(smN n d:Nat)∧((exF (CS n d p i)).d.length:Int)=(smN n d:Nat)*(smN n d:Nat):=by
  obtain⟨h1,h2,h3,h4⟩:=VT h
  exact⟨h1,h2,h3,O5 h4⟩
theorem UG {m:Nat}{a b:List Int}:((mulF p (m:Int) (m:Int) (m:Int) a b).length:Int)=(m:Int)*(m:Int):=O5 (Eh ..)
theorem cp {m a:Nat}{c:Int}:(Lx p c (unitL m a)).length=m:=by simp[Lx,Bf]
theorem dG {c:Int}{x:List Int}(hp:2≤p∧p≤10007):∀ k,0≤(Lx p c x).getD k 0∧(Lx p c x).getD k 0≤10007:=fun k=>by
  by_cases hk:k<x.length
  · have e:(Lx p c x).getD k 0=(0+c*x.getD k 0)%p:=by simp[Lx,List.getD,hk]
    have h1:=Int.emod_nonneg (0+c*x.getD k 0) (show p≠0 by omega)
    have h2:=Int.emod_lt_of_pos (0+c*x.getD k 0) (show 0<p by omega)
    rw[e];omega
  · rw[List.getD,List.getElem?_eq_none (by simp[Lx];omega)];simp
theorem e9 {m a:Nat}(ha:a<m):Af (List.replicate (unitL m a).length 0) (-1) (unitL m a)=Av (unitL m a):=Of fun k _=>by
  have h:=Ft ha k
  by_cases hk:k<m
  · rw[h hk];split <;> omega
  · rw[List.getD,List.getElem?_eq_none (by rw[Bf];omega)];simp
end
open Go.RowKit
theorem K6:∀ us w,(callFunc 59 us).run Tryz.prog w = .ok (.enter 59 us) w:=fun us w=>by kernel_rfl
theorem fG:∀ us w,(callFunc 74 us).run Tryz.prog w = .ok (.enter 74 us) w:=fun us w=>by kernel_rfl
theorem Fp {W:World}{own:List Asn}{n:Int}{i:Int}(hn:0≤n∧n≤64)(hi:0≤i∧i<n):Spec Tryz.prog 73 [J (n),J (i)] W own (fun v ow=>∃ (r0:Value),v=r0∧Ab r0∧ow=ints 3 r0 (unitL n.toNat i.toNat)::own):=by
 refine Spec.enter Tryz.f73 _ Tryz.func73 rfl (n:=12) rfl rfl ?_
 refine Zs (Zr (Za rfl (Zn (Zt (Zs (Zr (Zm rfl (Yt (OG.makeInts rfl Ac rfl rfl (by omega)) ?_))))))))
 rintro v1 _ ⟨hs2,rfl⟩
 refine Za rfl (Zn (Zt (Zs (Zr (Zm rfl (Zm rfl (Zd (OD.indexAddr rfl Ac rfl (Ei 0) rfl (by first | omega | (simp only[List.length_set,List.length_replicate];omega))) rfl ?_)))))))
 refine G.stepD0 (OD.storeInt rfl Ak rfl rfl (i:=0) rfl (by first | omega | (simp only[List.length_set,List.length_replicate];omega))) rfl rfl ?_
 refine Zn (Zt (Zs (Zr (Zm rfl (Za rfl (Zn (Zt (GC.ret ?_))))))))
 exact GE.body [] 0 (Ao rfl rfl) rfl (⟨v1,rfl,hs2,congrArg (fun l0=>ints 3 v1 l0::own) ((Fk (by omega):(List.replicate (n:Int).toNat (0:Int)).set ((i:Int).toNat) (1)=unitL n.toNat i.toNat))⟩)
theorem UQ {W:World}{own:List Asn}{p:Int}{cols:Int}{vx:Value}{ux:List Value}{x:List (List Int)}(sx:Ab vx)(ex:Ent own fun w=>Sl w vx x.length 1 ux)(mx:∀ k,k<x.length→Ent own fun w=>Ints w (ux.getD k undef) (x.getD k []))(lx:ux.length=x.length)(ax:AllS ux)(hxl:x.length≤64)(hle:∀ k,k<x.length→(x.getD k []).length≤64):Spec Tryz.prog 74 [J (p),J (cols),vx] W own (fun v ow=>∃ (r3:Value),v = .agg #[J (p),J ((x.length:Nat)),J (cols),r3]∧Ab r3∧ow=ints 3 r3 x.flatten::own):=by
 refine Spec.enter Tryz.f74 _ Tryz.func74 rfl (n:=30) rfl rfl ?_
 refine Zs (Zr (Yt (OG.alloc rfl Ah (zs:=[J (0),J (0),J (0),.slice none 0 0]) rfl) ?_))
 rintro _ _ ⟨g1,rfl,rfl⟩
 refine Zn (Zt (Zs (Zr (Zm rfl (Zm rfl (Zd (Qn AM (Ent.drop 1 ex)) rfl ?_))))))
 refine Zm rfl (Yt (OG.buildInts (xs:=[]) (is:=[]) rfl Ac rfl rfl rfl rfl rfl) ?_)
 rintro v2 _ ⟨hs3,rfl⟩
 refine Zd (OD.build (idx:=[0,1,2,3]) (xs:=[.tmp 9,.tmp 11,.tmp 12,.tmp 13]) (vs:=[J (p),J ((x.length:Nat)),J (cols),v2]) (cs:=[[J (p)],[J ((x.length:Nat))],[J (cols)],[v2]]) (zs:=[J (0),J (0),J (0),.slice none 0 0]) (r:=[J (p),J ((x.length:Nat)),J (cols),v2]) rfl Ah rfl rfl rfl ⟨rfl,⟨rfl,⟨rfl,⟨(AN (Ab.one hs3)),trivial⟩⟩⟩⟩ rfl) rfl ?_
 refine Yt (OG.alloc rfl Ah (zs:=[J (0),J (0),J (0),.slice none 0 0]) rfl) ?_
 rintro _ _ ⟨g4,rfl,rfl⟩
 refine Yu Ah [J (p),J ((x.length:Nat)),J (cols),v2] 0 (Ad rfl (Ad rfl (Ad rfl (Ad (Ab.one hs3) rfl)))) ?_
 refine Zn (Zt (Zs (Zs (Zr (Za rfl (Zn (Zt (GC.block ?_))))))))
 refine GC.ownEq (own':=box g4 51 [J (p),J ((x.length:Nat)),J (cols),v2]::ints 3 v2 ((x.take 0).flatten)::box g1 51 [J (0),J (0),J (0),.slice none 0 0]::own) (rfl) ?_
 refine Yl (ι:=Nat × Value) (fun⟨k,v⟩=>[(2,vx),(6,Pg g1 0),(7,Pg g4 0),(8,J ((k:Int)))]) (fun⟨k,v⟩=>box g4 51 [J (p),J ((x.length:Nat)),J (cols),v]::ints 3 v ((x.take k).flatten)::box g1 51 [J (0),J (0),J (0),.slice none 0 0]::own) (fun⟨k,v⟩=>(k≤x.length)∧(Ab v)) (fun⟨k,v⟩=>x.length - k) (0,v2) (⟨by omega,hs3⟩) [] 0 ?_
 rintro⟨k,v⟩ ⟨hk,hv⟩
 have hfl:=HK hle k hk
 refine Zs (Zs (Zr (Zm rfl (Zm rfl (Zd (Qn AM (Ent.drop 3 ex)) rfl ?_)))))
 refine Zd Bb rfl ?_
 refine Zn (Zt ?_)
 refine GC.cond rfl (fun hc5=>?_) (fun hc5=>?_)
 replace hc5:=of_decide_eq_true hc5
 refine Zk (Zt (Zs (GC.block ?_)))
 have hlk:=hle k (by omega)
 refine Ya [(2,_),(6,_),(7,_),(8,_)] ?_
 refine Wp [Z0 21 (Pg g4 3),Z1 22 [(0,21)] v,Z0 23 vx,Z0 24 (J ((k:Int))),Z1 25 [(2,23),(3,24)] (Aa vx 1 (k)),Z1 26 [(4,25)] ((ux.getD (k) undef))] (Zc (fun _ _ _=>Zq (Qf BV) rfl) (Zc (fun _ _ _=>Zq (Ql AH 0) rfl) (Yv (Yv (Zc (fun _ _ _=>Zq (Qi AM (Ent.drop 3 ex.app)) rfl) (Zc (fun _ _ _=>Zq (OD.loadElem rfl AH rfl (Ent.drop 3 ex.app) (by omega) rfl) rfl) As.nil)))))) ?_
 intro θ _
 refine Yb [(2,_),(6,_),(7,_),(8,_),(22,v),(26,(ux.getD (k) undef))] (_::_) ?_
 show G _ _ _ [_,_,_] _ _ _ _
 refine Yt (OG.appendInts 1 rfl rfl Ac rfl rfl rfl (Ent.drop 3 (mx (k) (by omega))) (by first | omega | (simp;omega))) ?_
 rintro v6 _ ⟨hs7,rfl⟩
 refine Zd (Qf BV) rfl ?_
 refine G.stepD0 (OD.store rfl AH rfl rfl (us:=[v6]) (AN (Ab.one hs7)) rfl (Ad (Ab.one hs7) rfl) (i:=0) rfl rfl) rfl rfl ?_
 refine Zn (GE.blockN (Zt (Zr ?_)))
 refine Zm rfl (Zd Qp rfl ?_)
 refine Za rfl (Zn (GE.ownEq (own':=box g4 51 [J (p),J ((x.length:Nat)),J (cols),v6]::ints 3 v6 ((x.take (k+1)).flatten)::box g1 51 [J (0),J (0),J (0),.slice none 0 0]::own) (by rw[← GU (by omega)] <;> rfl) ?_))
 exact Yg (k+1,v6) (⟨by omega,hs7⟩) [] 0
 replace hc5:=of_decide_eq_false hc5
 refine GC.exit (Zp (Zp (GE.hit (Zt (Zs (Zr ?_))))))
 refine Zd (Qa Ah 0 [_,_,_,_]) rfl ?_
 refine Yu Ah [J (p),J ((x.length:Nat)),J (cols),v] 2 (Ad rfl (Ad rfl (Ad rfl (Ad (Ab.one hv) rfl)))) ?_
 refine Zn (Zt (GC.ret ?_))
 exact GE.body [1] 2 (AZ rfl (RVs.cons (Ag Ah rfl (i:=2) rfl rfl) RVs.nil) rfl) rfl (⟨v,rfl,hv,congrArg (fun l0=>ints 3 v l0::own) ((ON (by omega):(x.take k).flatten=x.flatten))⟩)
theorem bW:∀ us w,(callFunc 139 us).run Tryz.prog w = .ok (.enter 139 us) w:=fun us w=>by kernel_rfl
theorem Mt {W:World}{own:List Asn}{xp:Int}{xn:Int}{vxt:Value}{xt:List Int}{vu:Value}{u:List Int}(sxt:Ab vxt)(ext:Ent own fun w=>Ints w vxt xt)(su:Ab vu)(eu:Ent own fun w=>Ints w vu u){N:Nat}(hxn:xn=(N:Int))(hT:TbR xp N xt)(hul:u.length=N)(hu:∀ i,0≤u.getD i 0∧u.getD i 0≤10007):Spec Tryz.prog 82 [.agg #[J (xp),J (xn),vxt],vu] W own (fun v ow=>∃ (r3:Value),v = .agg #[J (xp),J ((N:Int)),J ((N:Int)),r3]∧Ab r3∧ow=ints 3 r3 (HV xp N xt u)::own):=by
 have h28:=hT.hn
 have hpp:=hT.hp
 have hl:=hT.len
 refine Spec.enter Tryz.f82 _ Tryz.func82 rfl (n:=30) rfl rfl ?_
 refine Zs (Zr (Yt (OG.box (cs:=[J (xp),J (xn),vxt]) rfl rfl rfl) ?_))
 rintro _ _ ⟨g1,rfl,rfl⟩
 refine Yt (OG.alloc rfl Ah (zs:=[J (0),J (0),J (0),.slice none 0 0]) rfl) ?_
 rintro _ _ ⟨g2,rfl,rfl⟩
 refine Zn (Zt (Zs (Zr (Yt (OG.buildLst (xs:=[]) (us:=[]) rfl AM rfl rfl rfl rfl rfl) ?_))))
 rintro v3 _ ⟨hs4,rfl⟩
 refine Za rfl (Zn (Zt (Zs (Zs (Zr (Za rfl (Zn (Zt (GC.block ?_)))))))))
 refine GC.many0 (ints 3) ?_
 refine Yl (ι:=Nat × List Value × Value) (fun⟨k,us,v⟩=>[(1,vu),(2,Pg g1 0),(4,Pg g2 0),(5,v),(6,J ((k:Int)))]) (fun⟨k,us,v⟩=>many (ints 3) us (Lb xp N xt u k)::lst 22 v us::box g2 51 [J (0),J (0),J (0),.slice none 0 0]::box g1 43 [J (xp),J (xn),vxt]::own) (fun⟨k,us,v⟩=>(k≤N)∧(AllS us)∧(us.length=k)∧(Ab v)) (fun⟨k,us,v⟩=>N - k) (0,[],v3) (⟨by omega,AllS.nil,rfl,hs4⟩) [] 0 ?_
 rintro⟨k,us,v⟩ ⟨hk,ha,husl,hv⟩
 have hrl:(Lb xp N xt u k).length=k:=HJ
 refine Zs (Zs (Zr (Zm rfl (Zd (Qf Cv) rfl ?_))))
 refine Zd (Ql Ak 3) rfl ?_
 refine Zd Bb rfl ?_
 refine Zn (Zt ?_)
 refine GC.cond rfl (fun hc5=>?_) (fun hc5=>?_)
 replace hc5:=of_decide_eq_true hc5
 refine Zk (Zt (Zs (GC.block ?_)))
 refine Ya [(1,_),(2,_),(4,_),(5,_),(6,_)] ?_
 refine Wp [Z0 14 v,Z0 15 (.agg #[J (xp),J (xn),vxt]),Z0 16 vu,Z0 17 (Pg g1 1),Z1 18 [(3,17)] (J (xn)),Z0 19 (J ((k:Int))),⟨20,[(4,18),(5,19)],[],[],[6],fun ds=>((ds.getD 0 []).getD 0 undef),fun ds=>Ab ((ds.getD 0 []).getD 0 undef),fun ds=>[ints 3 ((ds.getD 0 []).getD 0 undef) (unitL xn.toNat (k:Int).toNat)]⟩,⟨21,[(1,15),(2,16),(6,20)],[6],[],[6,7],fun ds=>((ds.getD 1 []).getD 0 undef),fun ds=>Ab ((ds.getD 1 []).getD 0 undef),fun ds=>[ints 3 ((ds.getD 1 []).getD 0 undef) (FL xp N xt u (unitL xn.toNat (k:Int).toNat) N)]⟩,⟨22,[(7,21)],[6,7],[],[6,7,8],fun ds=>((ds.getD 2 []).getD 0 undef),fun ds=>Ab ((ds.getD 2 []).getD 0 undef),fun ds=>[lst 22 ((ds.getD 2 []).getD 0 undef) [((ds.getD 1 []).getD 0 undef)]]⟩] (Yv (Zc (fun _ _ _=>Zq (Qa Bj 3 [_,_,_]) rfl) (Yv (Zc (fun _ _ _=>Zq (Qf Cv) rfl) (Zc (fun _ _ _=>Zq (Ql Ak 3) rfl) (Yv (Zc (fun _ _ _=>AR.plain (OG.imp (Yc [J (xn),J ((k:Int))] NG (by exact(Fp (by omega) (by omega)))) (by rintro v12 _ ⟨_,rfl,hs13,rfl⟩;exact⟨[v12],rfl,hs13,rfl⟩)) rfl) (Zc (fun θ _ ⟨_,_,h6d,_⟩=>AR.plain (OG.imp (Yc [.agg #[J (xp),J (xn),vxt],vu,((θ 6).getD 0 undef)] bW (by exact(NO sxt (by exact(Ent.drop 5 ext.app)) su (by exact(Ent.drop 5 eu.app)) h6d (Ei 0) (N:=N) (hxn) (hT) (hul) (by rw[Bf];omega) (hu) (H0 (by omega))))) (by rintro v14 _ ⟨_,rfl,hs15,rfl⟩;exact⟨[v14],rfl,hs15,rfl⟩)) rfl) (Zc (fun θ _ ⟨h7d,_⟩=>AR.plain (OG.imp (OG.buildLst (xs:=[.tmp 21]) (us:=[((θ 7).getD 0 undef)]) rfl AM rfl rfl rfl (Ad (Ab.one h7d) rfl) rfl) (by rintro v16 _ ⟨hs17,rfl⟩;exact⟨[v16],rfl,hs17,rfl⟩)) rfl) As.nil))))))))) ?_
 intro θ hall
 obtain⟨_,_,_,_,_,_,h6a,h7a,h8a,_⟩:=hall
 refine Yb [(1,_),(2,_),(4,_),(5,_),(6,_),(14,v),(22,((θ 8).getD 0 undef))] (ints 3 ((θ 6).getD 0 undef) (unitL xn.toNat (k:Int).toNat)::ints 3 ((θ 7).getD 0 undef) (FL xp N xt u (unitL xn.toNat (k:Int).toNat) N)::lst 22 ((θ 8).getD 0 undef) [((θ 7).getD 0 undef)]::_::_) ?_
 have hs18:Ab ((θ 6).getD 0 undef):=h6a
 clear h6a
 generalize ((θ 6).getD 0 undef)=v19 at *
 have hs20:Ab ((θ 7).getD 0 undef):=h7a
 clear h7a
 generalize ((θ 7).getD 0 undef)=v21 at *
 have hs22:Ab ((θ 8).getD 0 undef):=h8a
 clear h8a
 generalize ((θ 8).getD 0 undef)=v23 at *
 show G _ _ _ [_,_] _ _ _ _
 refine Yt (OG.appendLst 4 rfl rfl AM rfl rfl rfl (Ent.lst (i:=2) rfl) (List.all_eq_true.2 fun u hu=>by simpa using(AllS.snoc AllS.nil hs20).one u hu) (by simp[maxLen] <;> omega)) ?_
 rintro v24 _ ⟨hs25,rfl⟩
 refine Za rfl (Zn (GE.blockN (Zt (Zr ?_))))
 refine Zm rfl (Zd Qp rfl ?_)
 refine Za rfl (Zn (Yr [1,2,0,0,0,0,0] (_::_::_::_::_::_::_::own) ?_))
 refine GE.manyPush (by omega) ?_
 refine GE.ownEq (own':=many (ints 3) (us++[v21]) (Lb xp N xt u (k+1))::ints 3 v19 (unitL xn.toNat (k:Int).toNat)::lst 22 v23 [v21]::lst 22 v24 (us++[v21])::box g2 51 [J (0),J (0),J (0),.slice none 0 0]::box g1 43 [J (xp),J (xn),vxt]::own) (by rw[S1 hxn] <;> rfl) ?_
 exact Yg (k+1,us++[v21],v24) (⟨by omega,(ha.snoc hs20),by rw[List.length_append,List.length_singleton];omega,hs25⟩) [0,2,2,2] 2
 replace hc5:=of_decide_eq_false hc5
 refine GC.exit (Zp (Zp (GE.hit (Zt (Zs (Zr ?_))))))
 refine Zd (Qf G8) rfl ?_
 refine Zd (Ql Ak 3) rfl ?_
 refine Zd (Qf Cv) rfl ?_
 refine Zd (Ql Ak 3) rfl ?_
 refine Zm rfl (Yt (Yc [J (xp),J (xn),v] fG (by exact(UQ hv (Ent.len (Ent.lst (i:=1) rfl) (by omega)) (fun k hk=>Ent.manyInts (i:=0) (k:=k) rfl ⟨by omega,hk⟩) (by omega) ha (by rw[HJ];omega) (cY hT)))) ?_)
 rintro _ _ ⟨v26,rfl,hs27,rfl⟩
 refine Yu Ah [J (xp),J (((Lb xp N xt u k).length:Nat)),J (xn),v26] 3 (Ad rfl (Ad rfl (Ad rfl (Ad (Ab.one hs27) rfl)))) ?_
 refine Zn (Zt (GC.ret ?_))
 exact GE.body [0] 4 (AZ rfl (RVs.cons (Ag Ah rfl (i:=3) rfl rfl) RVs.nil) rfl) rfl (⟨v26,congr (congr (congrArg (fun a0 a1 a2=>(.agg #[J (a0),J (a1),J (a2),v26]:Value)) (rfl)) ((by rw[HJ];omega:(((Lb xp N xt u k).length:Nat):Int)=(N:Int)))) ((hxn:(xn:Int)=(N:Int))),hs27,congrArg (fun l0=>ints 3 v26 l0::own) ((by rw[show k=N by omega] <;> rfl:(Lb xp N xt u k).flatten=HV xp N xt u))⟩)
theorem Hl {W:World}{own:List Asn}{xp:Int}{xn:Int}{vxt:Value}{xt:List Int}{vu:Value}{u:List Int}(sxt:Ab vxt)(ext:Ent own fun w=>Ints w vxt xt)(su:Ab vu)(eu:Ent own fun w=>Ints w vu u){P:Int}{N:Nat}{T U:List Int}(hxp:xp=P)(hxn:xn=(N:Int))(hxt:xt=T)(hT:TbR P N T)(hu:u=U)(hul:U.length=N)(hub:∀ i,0≤U.getD i 0∧U.getD i 0≤10007):Spec Tryz.prog 82 [.agg #[J (xp),J (xn),vxt],vu] W own (fun v ow=>∃ (r3:Value),v = .agg #[J (P),J ((N:Int)),J ((N:Int)),r3]∧Ab r3∧ow=ints 3 r3 (HV P N T U)::own):=by
  subst hxp hxt hu
  exact Mt sxt ext su eu (N:=N) hxn hT hul hub
theorem fE:∀ us w,(callFunc 24 us).run Tryz.prog w = .ok (.enter 24 us) w:=fun us w=>by kernel_rfl
theorem dL:∀ us w,(callFunc 76 us).run Tryz.prog w = .ok (.enter 76 us) w:=fun us w=>by kernel_rfl
theorem bo:∀ us w,(callFunc 131 us).run Tryz.prog w = .ok (.enter 131 us) w:=fun us w=>by kernel_rfl
theorem cQ:∀ us w,(callFunc 169 us).run Tryz.prog w = .ok (.enter 169 us) w:=fun us w=>by kernel_rfl
theorem K4 {W:World}{own:List Asn}{n:Int}{i:Int}(hn:0≤n∧n≤64)(hi:0≤i∧i<n):Spec Tryz.prog 75 [J (n),J (i)] W own (fun v ow=>∃ (r0:Value),v=r0∧Ab r0∧ow=ints 3 r0 (unitL n.toNat i.toNat)::own):=by
 refine Spec.enter Tryz.f75 _ Tryz.func75 rfl (n:=12) rfl rfl ?_
 refine Zs (Zr (Za rfl (Zn (Zt (Zs (Zr (Zm rfl (Yt (OG.makeInts rfl Ac rfl rfl (by omega)) ?_))))))))
 rintro v1 _ ⟨hs2,rfl⟩
 refine Za rfl (Zn (Zt (Zs (Zr (Zm rfl (Zm rfl (Zd (OD.indexAddr rfl Ac rfl (Ei 0) rfl (by first | omega | (simp only[List.length_set,List.length_replicate];omega))) rfl ?_)))))))
 refine G.stepD0 (OD.storeInt rfl Ak rfl rfl (i:=0) rfl (by first | omega | (simp only[List.length_set,List.length_replicate];omega))) rfl rfl ?_
 refine Zn (Zt (Zs (Zr (Zm rfl (Za rfl (Zn (Zt (GC.ret ?_))))))))
 exact GE.body [] 0 (Ao rfl rfl) rfl (⟨v1,rfl,hs2,congrArg (fun l0=>ints 3 v1 l0::own) ((Fk (by omega):(List.replicate (n:Int).toNat (0:Int)).set ((i:Int).toNat) (1)=unitL n.toNat i.toNat))⟩)
theorem TK {W:World}{own:List Asn}{vx:Value}{ux:List Value}{x:List (List Int)}(sx:Ab vx)(ex:Ent own fun w=>Sl w vx x.length 1 ux)(mx:∀ k,k<x.length→Ent own fun w=>Ints w (ux.getD k undef) (x.getD k []))(lx:ux.length=x.length)(ax:AllS ux)(hxl:x.length≤64)(hle:∀ k,k<x.length→(x.getD k []).length≤64):Spec Tryz.prog 131 [vx] W own (fun v ow=>∃ (r0:Value),v=r0∧Ab r0∧ow=ints 3 r0 x.flatten::own):=by
 refine Spec.enter Tryz.f131 _ Tryz.func131 rfl (n:=36) rfl rfl ?_
 refine Zs (Zr (Za rfl (Zn (Zt (Zs (Zr (Za rfl (Zn (Zt (Zs (Zs (Zr (Zm rfl (Zd (Qn AM ex) rfl ?_))))))))))))))
 refine Zm rfl (Zn (Zt (GC.block ?_)))
 refine Yl (ι:=Nat × Int) (fun⟨k,q⟩=>[(0,vx),(9,vx),(10,J ((x.length:Nat))),(3,J (q)),(11,J ((k:Int)))]) (fun⟨k,q⟩=>own) (fun⟨k,q⟩=>(k≤x.length)∧(q=((x.take k).flatten.length:Nat))) (fun⟨k,q⟩=>x.length - k) (0,0) (⟨by omega,by simp⟩) [] 0 ?_
 rintro⟨k,q⟩ ⟨hk,hq⟩
 have hfl:=HK hle k hk
 refine Zs (Zr (Zd Bb rfl ?_))
 refine Zn (Zt (Zs ?_))
 refine GC.cond rfl (fun hc1=>?_) (fun hc1=>?_)
 replace hc1:=of_decide_eq_true hc1
 refine Zk (Zt (Zs (GC.block (Zs (Zr ?_)))))
 refine Zd (Qi AM ex) rfl ?_
 refine Zd (OD.loadElem rfl AH rfl ex (by omega) rfl) rfl ?_
 refine Za rfl (Zn (Zt (Zs ?_)))
 have hlk:=hle k (by omega)
 refine Zr (Zm rfl (Zm rfl (Zd (OD.len rfl rfl Ac rfl ((mx (k) (by omega)))) rfl ?_)))
 refine Zd Qp rfl ?_
 refine Za rfl (Zn (Zt (Zs (Zr (Zm rfl (Zd (OD.eqv Bb (congrArg Value.bool ((decide_eq_false (by omega)):_=false))) rfl ?_))))))
 refine Zn (Zt (GC.condF rfl (Zk (GE.blockN (Zt (Zr ?_))))))
 refine Zd Qp rfl ?_
 exact Zm rfl (Zn (Yg (k+1,q+((x.getD (k) []).length:Nat)) (⟨by omega,by have:=Mf (L:=x) (k:=k) (by omega);omega⟩) [] 0))
 replace hc1:=of_decide_eq_false hc1
 refine GC.exit (Zp (Zp (GE.hit (Zt (Zs (Zr ?_))))))
 refine Zm rfl (Yt (Yc [.slice none 0 0,J (q)] cQ (by exact(bP (n:=q) (by omega)))) ?_)
 rintro v2 _ ⟨_,rfl,hs3,rfl⟩
 refine Za rfl (Zn (Zt (Zs (Zs (Zr (Zm rfl (Zd (Qn AM (Ent.drop 1 ex)) rfl ?_)))))))
 refine Zm rfl (Zn (Zt (GC.block ?_)))
 refine GC.ownEq (own':=ints 3 v2 ((x.take 0).flatten)::own) (rfl) ?_
 refine Yl (ι:=Nat × Value) (fun⟨k,v⟩=>[(25,vx),(26,J ((x.length:Nat))),(6,v),(27,J ((k:Int)))]) (fun⟨k,v⟩=>ints 3 v ((x.take k).flatten)::own) (fun⟨k,v⟩=>(k≤x.length)∧(Ab v)) (fun⟨k,v⟩=>x.length - k) (0,v2) (⟨by omega,hs3⟩) [] 0 ?_
 rintro⟨k,v⟩ ⟨hk,hv⟩
 have hfl:=HK hle k hk
 refine Zs (Zr (Zd Bb rfl ?_))
 refine Zn (Zt (Zs ?_))
 refine GC.cond rfl (fun hc4=>?_) (fun hc4=>?_)
 replace hc4:=of_decide_eq_true hc4
 refine Zk (Zt (Zs (GC.block (Zs (Zr ?_)))))
 refine Zd (Qi AM (Ent.drop 1 ex)) rfl ?_
 refine Zd (OD.loadElem rfl AH rfl (Ent.drop 1 ex) (by omega) rfl) rfl ?_
 refine Za rfl (Zn (Zt ?_))
 have hlk:=hle k (by omega)
 refine Zr (Zm rfl (Zm rfl (Yt (OG.appendInts 0 rfl rfl Ac rfl rfl rfl (Ent.drop 1 (mx (k) (by omega))) (by first | omega | (simp;omega))) ?_)))
 rintro v5 _ ⟨hs6,rfl⟩
 refine Za rfl (Zn (GE.blockN (Zt (Zr ?_))))
 refine Zd Qp rfl ?_
 refine Zm rfl (Zn (GE.ownEq (own':=ints 3 v5 ((x.take (k+1)).flatten)::own) (by rw[← GU (by omega)] <;> rfl) ?_))
 exact Yg (k+1,v5) (⟨by omega,hs6⟩) [] 0
 replace hc4:=of_decide_eq_false hc4
 refine GC.exit (Zp (Zp (GE.hit (Zt (Zs (Zr ?_))))))
 refine Zm rfl (Za rfl (Zn (Zt (GC.ret ?_))))
 exact GE.body [] 0 (Ao rfl rfl) rfl (⟨v,rfl,hv,congrArg (fun l0=>ints 3 v l0::own) ((ON (by omega):(x.take k).flatten=x.flatten))⟩)
theorem PU {W:World}{own:List Asn}{p:Int}{cols:Int}{vx:Value}{ux:List Value}{x:List (List Int)}(sx:Ab vx)(ex:Ent own fun w=>Sl w vx x.length 1 ux)(mx:∀ k,k<x.length→Ent own fun w=>Ints w (ux.getD k undef) (x.getD k []))(lx:ux.length=x.length)(ax:AllS ux)(hxl:x.length≤64)(hle:∀ k,k<x.length→(x.getD k []).length≤64):Spec Tryz.prog 76 [J (p),J (cols),vx] W own (fun v ow=>∃ (r3:Value),v = .agg #[J (p),J ((x.length:Nat)),J (cols),r3]∧Ab r3∧ow=ints 3 r3 x.flatten::own):=by
 refine Spec.enter Tryz.f76 _ Tryz.func76 rfl (n:=14) rfl rfl ?_
 refine Zs (Zr (Yt (OG.alloc rfl Ah (zs:=[J (0),J (0),J (0),.slice none 0 0]) rfl) ?_))
 rintro _ _ ⟨g1,rfl,rfl⟩
 refine Zn (Zt (Zs (Zr (Zm rfl (Zm rfl (Zd (Qn AM (Ent.drop 1 ex)) rfl ?_))))))
 refine Zm rfl (Zm rfl (Yt (Yc [vx] bo (by exact(TK sx (Ent.drop 1 ex) (fun k hk=>(Ent.drop 1 (mx k hk))) lx ax (hxl) (hle)))) ?_))
 rintro v2 _ ⟨_,rfl,hs3,rfl⟩
 refine Zd (OD.build (idx:=[0,1,2,3]) (xs:=[.tmp 7,.tmp 9,.tmp 10,.tmp 12]) (vs:=[J (p),J ((x.length:Nat)),J (cols),v2]) (cs:=[[J (p)],[J ((x.length:Nat))],[J (cols)],[v2]]) (zs:=[J (0),J (0),J (0),.slice none 0 0]) (r:=[J (p),J ((x.length:Nat)),J (cols),v2]) rfl Ah rfl rfl rfl ⟨rfl,⟨rfl,⟨rfl,⟨(AN (Ab.one hs3)),trivial⟩⟩⟩⟩ rfl) rfl ?_
 refine Yu Ah [J (p),J ((x.length:Nat)),J (cols),v2] 1 (Ad rfl (Ad rfl (Ad rfl (Ad (Ab.one hs3) rfl)))) ?_
 refine Zn (Zt (GC.ret ?_))
 exact GE.body [0] 1 (AZ rfl (RVs.cons (Ag Ah rfl (i:=1) rfl rfl) RVs.nil) rfl) rfl (⟨v2,rfl,hs3,rfl⟩)
theorem dc:∀ us w,(callFunc 146 us).run Tryz.prog w = .ok (.enter 146 us) w:=fun us w=>by kernel_rfl
theorem Pu {W:World}{own:List Asn}{xp:Int}{xn:Int}{vxt:Value}{xt:List Int}{vu:Value}{u:List Int}(sxt:Ab vxt)(ext:Ent own fun w=>Ints w vxt xt)(su:Ab vu)(eu:Ent own fun w=>Ints w vu u){N:Nat}(hxn:xn=(N:Int))(hT:TbR xp N xt)(hul:u.length=N)(hu:∀ i,0≤u.getD i 0∧u.getD i 0≤10007):Spec Tryz.prog 87 [.agg #[J (xp),J (xn),vxt],vu] W own (fun v ow=>∃ (r3:Value),v = .agg #[J (xp),J ((N:Int)),J ((N:Int)),r3]∧Ab r3∧ow=ints 3 r3 (RW xp N xt u)::own):=by
 have h28:=hT.hn
 have hpp:=hT.hp
 have hl:=hT.len
 refine Spec.enter Tryz.f87 _ Tryz.func87 rfl (n:=27) rfl rfl ?_
 refine Zs (Zr (Yt (OG.box (cs:=[J (xp),J (xn),vxt]) rfl rfl rfl) ?_))
 rintro _ _ ⟨g1,rfl,rfl⟩
 refine Yt (OG.alloc rfl Ah (zs:=[J (0),J (0),J (0),.slice none 0 0]) rfl) ?_
 rintro _ _ ⟨g2,rfl,rfl⟩
 refine Zn (Zt (Zs (Zr (Yt (OG.buildLst (xs:=[]) (us:=[]) rfl AM rfl rfl rfl rfl rfl) ?_))))
 rintro v3 _ ⟨hs4,rfl⟩
 refine Za rfl (Zn (Zt (Zs (Zs (Zr (Zd (Qf GF) rfl ?_))))))
 refine Zd (Ql Ak 2) rfl ?_
 refine Zm rfl (Zn (Zt (GC.block ?_)))
 refine GC.many0 (ints 3) ?_
 refine Yl (ι:=Nat × List Value × Value) (fun⟨k,us,v⟩=>[(1,vu),(2,Pg g1 0),(4,Pg g2 0),(9,J (xn)),(5,v),(10,J ((k:Int)))]) (fun⟨k,us,v⟩=>many (ints 3) us (KX xp N xt u k)::lst 22 v us::box g2 51 [J (0),J (0),J (0),.slice none 0 0]::box g1 98 [J (xp),J (xn),vxt]::own) (fun⟨k,us,v⟩=>(k≤N)∧(AllS us)∧(us.length=k)∧(Ab v)) (fun⟨k,us,v⟩=>N - k) (0,[],v3) (⟨by omega,AllS.nil,rfl,hs4⟩) [] 0 ?_
 rintro⟨k,us,v⟩ ⟨hk,ha,husl,hv⟩
 have hrl:(KX xp N xt u k).length=k:=HT
 refine Zs (Zr (Zd Bb rfl ?_))
 refine Zn (Zt (Zs ?_))
 refine GC.cond rfl (fun hc5=>?_) (fun hc5=>?_)
 replace hc5:=of_decide_eq_true hc5
 refine Zk (Zt (Zs (GC.block (Zs (Zr ?_)))))
 refine Zm rfl (Za rfl (Zn (Zt (Zr (Zm rfl (Zd (Qa Lk 3 [_,_,_]) rfl ?_))))))
 refine Zm rfl (Zm rfl (Yt (Yc [.agg #[J (xp),J (xn),vxt],vu,J ((k:Int))] dc (by exact(XU sxt (by exact(Ent.drop 4 ext)) su (by exact(Ent.drop 4 eu)) (N:=N) (hxn) (hT) (by omega) (hul) (hu)))) ?_))
 rintro v6 _ ⟨_,rfl,hs7,rfl⟩
 refine Yt (OG.buildLst (xs:=[.tmp 17]) (us:=[v6]) rfl AM rfl rfl rfl (Ad (Ab.one hs7) rfl) rfl) ?_
 rintro v8 _ ⟨hs9,rfl⟩
 refine Yt (OG.appendLst 3 rfl rfl AM rfl rfl rfl (Ent.lst (i:=0) rfl) (List.all_eq_true.2 fun u hu=>by simpa using(AllS.snoc AllS.nil hs7).one u hu) (by simp[maxLen] <;> omega)) ?_
 rintro v10 _ ⟨hs11,rfl⟩
 refine Za rfl (Zn (GE.blockN (Zt (Zr ?_))))
 refine Zd Qp rfl ?_
 refine Zm rfl (Zn (Yr [1,1,0,0,0,0] (_::_::_::_::_::_::own) ?_))
 refine GE.manyPush (by omega) ?_
 refine GE.ownEq (own':=many (ints 3) (us++[v6]) (KX xp N xt u (k+1))::lst 22 v8 [v6]::lst 22 v10 (us++[v6])::box g2 51 [J (0),J (0),J (0),.slice none 0 0]::box g1 98 [J (xp),J (xn),vxt]::own) (by rw[TA] <;> rfl) ?_
 exact Yg (k+1,us++[v6],v10) (⟨by omega,(ha.snoc hs7),by rw[List.length_append,List.length_singleton];omega,hs11⟩) [0,1,1,1] 1
 replace hc5:=of_decide_eq_false hc5
 refine GC.exit (Zp (Zp (GE.hit (Zt (Zs (Zr ?_))))))
 refine Zd (Qf Uk) rfl ?_
 refine Zd (Ql Ak 3) rfl ?_
 refine Zd (Qf GF) rfl ?_
 refine Zd (Ql Ak 3) rfl ?_
 refine Zm rfl (Yt (Yc [J (xp),J (xn),v] dL (by exact(PU hv (Ent.len (Ent.lst (i:=1) rfl) (by omega)) (fun k hk=>Ent.manyInts (i:=0) (k:=k) rfl ⟨by omega,hk⟩) (by omega) ha (by rw[HT];omega) (b5 hT)))) ?_)
 rintro _ _ ⟨v12,rfl,hs13,rfl⟩
 refine Yu Ah [J (xp),J (((KX xp N xt u k).length:Nat)),J (xn),v12] 3 (Ad rfl (Ad rfl (Ad rfl (Ad (Ab.one hs13) rfl)))) ?_
 refine Zn (Zt (GC.ret ?_))
 exact GE.body [0] 4 (AZ rfl (RVs.cons (Ag Ah rfl (i:=3) rfl rfl) RVs.nil) rfl) rfl (⟨v12,congr (congr (congrArg (fun a0 a1 a2=>(.agg #[J (a0),J (a1),J (a2),v12]:Value)) (rfl)) ((by rw[HT];omega:(((KX xp N xt u k).length:Nat):Int)=(N:Int)))) ((hxn:(xn:Int)=(N:Int))),hs13,congrArg (fun l0=>ints 3 v12 l0::own) ((by rw[show k=N by omega] <;> rfl:(KX xp N xt u k).flatten=RW xp N xt u))⟩)
theorem Lt {W:World}{own:List Asn}{xp:Int}{xn:Int}{vxt:Value}{xt:List Int}{vu:Value}{u:List Int}(sxt:Ab vxt)(ext:Ent own fun w=>Ints w vxt xt)(su:Ab vu)(eu:Ent own fun w=>Ints w vu u){P:Int}{N a:Nat}{T U:List Int}(hxp:xp=P)(hxn:xn=(N:Int))(hxt:xt=T)(hT:TbR P N T)(hu:u=U)(hU:U=unitL N a)(ha:a<N):Spec Tryz.prog 87 [.agg #[J (xp),J (xn),vxt],vu] W own (fun v ow=>∃ (r3:Value),v = .agg #[J (P),J ((N:Int)),J ((N:Int)),r3]∧Ab r3∧ow=ints 3 r3 (HV P N T U)::own):=by
  have hp:=hT.hp
  subst hxp hxt hu hU
  rw[← aA hT ha]
  exact Pu sxt ext su eu (N:=N) hxn hT (Bf _ _) (H0 ha)
end Go.Proofs.YtbmnnbglipkidaaGreatDoor
