/-
  strconv.Itoa, and strings.Join at " ", each by its contract in the words of XSep.
-/
import Derived.Test.YtbmnnbglipkidaaGreatDoorMap
import Derived.Shelf.Strconv.Itoa3
import Derived.Test.YtbmnnbglipkidaaGreatDoorFct
import Derived.Test.YtbmnnbglipkidaaGreatDoorWWgtA
import Derived.Test.YtbmnnbglipkidaaGreatDoorCarQ
import Derived.Test.YtbmnnbglipkidaaGreatDoorZ17
import Derived.Test.YtbmnnbglipkidaaGreatDoorZ23
import Derived.Shelf.Bits.Mul64
import Derived.Laws.CopyRow
import Derived.Test.YtbmnnbglipkidaaGreatDoorCarW
import Derived.Test.YtbmnnbglipkidaaGreatDoorLate
namespace Go.Proofs.YtbmnnbglipkidaaGreatDoor
set_option maxRecDepth 100000
set_option linter.unusedVariables false
set_option linter.unusedSimpArgs false
open Go.RowKit Go.Sort
theorem below_grow (w:World)(k:Nat)(os:Array Obj):Below w.heap.size w (grow (w.drewN k) os):=by
  refine⟨rfl,rfl,rfl,by simp[grow],fun i hi=>?_⟩
  simp only[grow]
  rw[Array.getElem?_append_left (by simpa using hi)]
  rfl
def Pow10 (w:World):Prop:=Lib.TabIs Tryz.prog w "internal/strconv.uint64pow10" .u64 Lib.pow10Tab
def I64 (n:Int):Prop := -9223372036854775808≤n∧n≤9223372036854775807
def All64 (xs:List Int):Prop:=∀ x∈xs,I64 x
theorem All64.get {xs:List Int}(h:All64 xs){k:Nat}(hk:k<xs.length):I64 (xs.getD k 0):=by
  have e:xs.getD k 0=xs[k]:=by simp[List.getD,hk]
  rw[e]
  exact h _ (List.getElem_mem hk)
theorem itoa_step {x:List Int}{k:Nat}(h:k<x.length):(x.take k).map itoaB++[itoaB (x.getD k 0)]=(x.take (k+1)).map itoaB:=by
  rw[List.take_succ_eq_append_getElem h,List.map_append]
  simp[List.getD,h]
theorem itoa_w {W:World}{own:List Asn}{n:Int}(hn:I64 n)(ht:Ent own Pow10):Spec Tryz.prog 179 [.int .i64 n] W own fun v ow=>v = .string (itoaB n)∧ow=own :=
  Spec.below fun w hst=>(Any.strconv_Itoa { Tryz.l171 with } n hn.1 hn.2 w (ht W w hst)).mono fun e w' ⟨he,k,os,hw⟩=>⟨he,hw ▸ below_grow w k os⟩
theorem joinS_w {W:World}{own:List Asn}{v:Value}{xs:List Int}(_:IsS v)(hv:Ent own fun w=>Strs w v (xs.map itoaB))(hr:All64 xs)(hN:xs.length≤1000000) :
    Spec Tryz.prog 153 [v,.string ⟨#[32]⟩] W own fun u ow=>u = .string (fmtB xs)∧ow=own:=Spec.below fun w hst=>by
  obtain⟨_,ao,cap,rfl,h1,_,_,h4⟩:=hv W w hst
  cases xs with
  | nil=>exact(Any.strings_Join_none Tryz.l156 Tryz.x156 ao cap ⟨#[32]⟩ w).mono fun e w' ⟨he,hw⟩=>⟨he,hw ▸ Below.refl _ _⟩
  | cons x r =>
    obtain⟨b,o,rfl,hb,hc⟩:=h4 (by simp)
    have hsz:=fmtB_size hr
    have hj:=fmtB_join (x::r)
    have h:=Any.strings_Join Tryz.l156 Tryz.x156 b o cap ((x::r).map itoaB) ⟨#[32]⟩ w (fun j y hy=>?_) hb (by rw[List.length_map];omega) h1 (by
      have e:=congrArg (fun b:ByteArray=>b.data.size) hj
      simp only[List.size_toArray] at e
      have e2:(fmtB (x::r)).size=(fmtB (x::r)).data.size:=rfl
      show (Lib.join _ [32]).length≤_
      rw[e,← e2]
      omega)
    · refine h.mono fun e w' ⟨he,hw⟩=>⟨?_,hw⟩
      rw[he]
      exact congrArg (fun b=>Ending.returned (.string b)) hj
    · have hj:j<((x::r).map itoaB).length:=(List.getElem?_eq_some_iff.1 hy).1
      rw[hc j (by rw[List.length_map] at hj ⊢;omega)]
      simp only[List.getD,List.getElem?_map] at hy ⊢
      cases e:(x::r)[j]? with
      | none=>rw[e] at hy;cases hy
      | some z =>
        rw[e] at hy
        simp at hy
        simp[hy]
end Go.Proofs.YtbmnnbglipkidaaGreatDoor
namespace Go.Proofs.YtbmnnbglipkidaaGreatDoor
set_option maxRecDepth 100000
set_option linter.unusedVariables false
set_option linter.unusedSimpArgs false
open Go.RowKit
theorem formatInt_w {W:World}{own:List Asn}{n:Int}(hn:I64 n)(htab:Ent own Pow10):Spec Tryz.prog 152 [.int .i64 (n)] W own (fun v ow=>v = .string (itoaB n)∧ow=own):=by
 refine Spec.enter Tryz.f152 _ Tryz.func152 rfl (n:=5) rfl rfl ?_
 refine Zs (Zr (Za rfl (Zn (Zt (Zs (Zr (Zm rfl (G.step (OG.call [.int .i64 (n)] ent179 rfl rfl rfl rfl (by exact(itoa_w (hn) (htab)))) rfl rfl rfl ?_))))))))
 rintro _ _ ⟨rfl,hzz⟩;obtain rfl:=hzz.symm
 refine Za rfl (Zn (Zt (GC.ret ?_)))
 exact GE.body [] 0 (res1 rfl rfl) rfl (⟨rfl,rfl⟩)
theorem formatInts_w {W:World}{own:List Asn}{vx:Value}{x:List Int}(sx:IsS vx)(ex:Ent own fun w=>Ints w vx x)(hr:All64 x)(hl:x.length≤1000)(htab:Ent own Pow10):Spec Tryz.prog 98 [vx] W own (fun v ow=>v = .string (fmtB x)∧ow=own):=by
 refine Spec.enter Tryz.f98 _ Tryz.func98 rfl (n:=21) rfl rfl ?_
 refine Zs (Zr (Za rfl (Zn (Zt (Zs (Zr (G.step (OG.buildStrs (os:=[]) (xs:=[]) rfl et113 rfl rfl rfl rfl rfl) rfl rfl rfl ?_)))))))
 rintro v1 _ ⟨hs2,rfl⟩
 refine Za rfl (Zn (Zt (Zs (Zs (Zr (Zm rfl (Zd (OD.len rfl rfl et22 rfl (Ent.drop 1 ex)) rfl ?_)))))))
 refine Zm rfl (Zn (Zt (GC.block ?_)))
 refine GC.loop (ι:=Nat × List ByteArray × Value) (fun⟨k,ws,v⟩=>[(7,vx),(8,.int .i64 ((x.length:Nat))),(3,v),(9,.int .i64 ((k:Int)))]) (fun⟨k,ws,v⟩=>strs 9 v ws::own) (fun⟨k,ws,v⟩=>(k≤x.length)∧(IsS v)∧(ws=(x.take k).map itoaB)) (fun⟨k,ws,v⟩=>x.length - k) (0,[],v1) (⟨by omega,hs2,rfl⟩) ⟨rfl,rfl,rfl,rfl,trivial⟩ [] 0 rfl ?_
 rintro⟨k,ws,v⟩ ⟨hk,hv,hw⟩
 have hwl:ws.length=k:=by rw[hw];simp;omega
 refine Zs (Zr (Zd (OD.lss rfl rfl rfl) rfl ?_))
 refine Zn (Zt (Zs ?_))
 refine GC.cond rfl (fun hc3=>?_) (fun hc3=>?_)
 replace hc3:=of_decide_eq_true hc3
 refine Zk (Zt (Zs (GC.block (Zs (Zr ?_)))))
 refine Zd (OD.indexAddr rfl et22 rfl (Ent.drop 1 ex) rfl (by omega)) rfl ?_
 refine Zd (OD.loadInt rfl ti3 rfl (Ent.drop 1 ex) (by omega)) rfl ?_
 refine Za rfl (Zn (Zt (Zr (Zm rfl (Zm rfl (G.step (OG.call [.int .i64 (x.getD (k) 0)] ent152 rfl rfl rfl rfl (by exact(formatInt_w (hr.get (by omega)) ((Ent.drop 1 htab))))) rfl rfl rfl ?_))))))
 rintro _ _ ⟨rfl,rfl⟩
 refine G.step (OG.buildStrs (os:=[.tmp 15]) (xs:=[itoaB (x.getD (k) 0)]) rfl et113 rfl rfl rfl rfl rfl) rfl rfl rfl ?_
 rintro v4 _ ⟨hs5,rfl⟩
 refine G.step (OG.appendStrs 1 rfl rfl et113 rfl rfl rfl (Ent.strs (i:=0) rfl) (by simp[maxLen] <;> omega)) rfl rfl rfl ?_
 rintro v6 _ ⟨hs7,rfl⟩
 refine Za rfl (Zn (GE.blockN (Zt (Zr ?_))))
 refine Zd (OD.addI rfl rfl rfl (by omega)) rfl ?_
 exact Zm rfl (Zn (GE.again (k+1,ws++[itoaB (x.getD (k) 0)],v6) (⟨by omega,hs7,by rw[hw];exact itoa_step (by omega)⟩) (by first | omega | (dsimp only;omega)) ⟨rfl,rfl,rfl,rfl,trivial⟩ [1] 1 rfl))
 replace hc3:=of_decide_eq_false hc3
 have hwx:ws=x.map itoaB:=by rw[hw,List.take_of_length_le (by omega)]
 refine GC.exit (Zp (Zp (GE.hit (Zt (Zs (Zr ?_))))))
 refine Zm rfl (G.ownEq (own':=strs 9 v (x.map itoaB)::own) (by rw[hwx]) ?_)
 skip
 refine G.step (OG.call [v,.string (⟨#[32]⟩)] ent153 rfl rfl rfl rfl (by exact(joinS_w hv (Ent.strs (i:=0) rfl) (hr) (by omega)))) rfl rfl rfl ?_
 rintro _ _ ⟨rfl,rfl⟩
 refine Za rfl (Zn (Zt (GC.ret ?_)))
 exact GE.body [] 1 (res1 rfl rfl) rfl (⟨rfl,rfl⟩)
theorem listPlus_w {W:World}{own:List Asn}{vx:Value}{x:List Int}{k:Int}{vy:Value}{y:List Int}(sx:IsS vx)(ex:Ent own fun w=>Ints w vx x)(sy:IsS vy)(ey:Ent own fun w=>Ints w vy y)(hl:x.length≤1073741824)(hle:y.length≤x.length):Spec Tryz.prog 68 [vx,.int .i64 (k),vy] W own (fun v ow=>∃ (r0:Value),v=r0∧IsS r0∧ow=ints 3 r0 (lpF x k y)::own):=by
 refine Spec.enter Tryz.f68 _ Tryz.func68 rfl (n:=30) rfl rfl ?_
 refine Zs (Zr (Za rfl (Zn (Zt (Zs (Zr (Zm rfl (G.step (OG.call [vx] ent130 rfl rfl rfl rfl (by exact(clone_w sx ex (hl)))) rfl rfl rfl ?_))))))))
 rintro v1 _ ⟨_,rfl,hs2,rfl⟩
 refine Za rfl (Zn (Zt (Zs (Zs (Zr (Zm rfl (Zd (OD.len rfl rfl et22 rfl (Ent.drop 1 ey)) rfl ?_)))))))
 refine Zm rfl (Zn (Zt (GC.block ?_)))
 refine GC.loop (ι:=Nat × List Int) (fun⟨i,ys⟩=>[(1,.int .i64 (k)),(7,v1),(12,vy),(13,.int .i64 ((y.length:Nat))),(14,.int .i64 ((i:Int)))]) (fun⟨i,ys⟩=>ints 3 v1 ys::own) (fun⟨i,ys⟩=>(i≤y.length)∧(ys.length=x.length)∧(ys=(List.range i).foldl (fun(o:List Int) (i:Nat)=>o.set i (IntKind.i64.wrap (o.getD i 0+IntKind.i64.wrap (k*y.getD i 0)))) x)) (fun⟨i,ys⟩=>y.length - i) (0,x) (⟨by omega,rfl,rfl⟩) ⟨rfl,rfl,rfl,rfl,rfl,trivial⟩ [] 0 rfl ?_
 rintro⟨i,ys⟩ ⟨hi,hyl,hy⟩
 refine Zs (Zr (Zd (OD.lss rfl rfl rfl) rfl ?_))
 refine Zn (Zt (Zs ?_))
 refine GC.cond rfl (fun hc3=>?_) (fun hc3=>?_)
 replace hc3:=of_decide_eq_true hc3
 refine Zk (Zt (Zs (GC.block (Zs (Zr ?_)))))
 refine Zm rfl (Zd (OD.indexAddr rfl et22 rfl (Ent.drop 1 ey) rfl (by omega)) rfl ?_)
 refine Zd (OD.loadInt rfl ti3 rfl (Ent.drop 1 ey) (by omega)) rfl ?_
 refine Za rfl (Za rfl (Zn (Zt (Zr (Zm rfl (Zm rfl (Zd (OD.indexAddr rfl et22 rfl (Ent.ints (i:=0) rfl) rfl (by omega)) rfl ?_)))))))
 refine Zd (OD.loadInt rfl ti3 rfl (Ent.ints (i:=0) rfl) (by omega)) rfl ?_
 refine Zm rfl (Zm rfl (Zd (OD.mul rfl rfl rfl) rfl ?_))
 refine Zd (OD.add rfl rfl rfl) rfl ?_
 refine Zd (OD.indexAddr rfl et22 rfl (Ent.ints (i:=0) rfl) rfl (by omega)) rfl ?_
 refine G.stepD0 (OD.storeInt rfl ti3 rfl rfl (i:=0) rfl (by omega)) rfl rfl ?_
 refine Zn (GE.blockN (Zt (Zr ?_)))
 refine Zd (OD.addI rfl rfl rfl (by first | omega | (simp only[List.length_set,List.length_replicate];omega))) rfl ?_
 exact Zm rfl (Zn (GE.again (i+1,(ys).set (i) (IntKind.i64.wrap ((ys.getD (i) 0)+(IntKind.i64.wrap (k*(y.getD (i) 0)))))) (⟨by omega,by rw[List.length_set];exact hyl,fold_next hy rfl⟩) (by first | omega | (dsimp only;omega)) ⟨rfl,rfl,rfl,rfl,rfl,trivial⟩ [] 0 rfl))
 replace hc3:=of_decide_eq_false hc3
 refine GC.exit (Zp (Zp (GE.hit (Zt (Zs (Zr ?_))))))
 refine Zm rfl (Za rfl (Zn (Zt (GC.ret ?_))))
 exact GE.body [] 0 (res1 rfl rfl) rfl (⟨v1,rfl,hs2,congrArg (fun(l0:List Int)=>ints 3 v1 l0::own) ((by rw[hy,show i=y.length by omega];rfl:ys=lpF x k y))⟩)
theorem listTimes_w {W:World}{own:List Asn}{k:Int}{vy:Value}{y:List Int}(sy:IsS vy)(ey:Ent own fun w=>Ints w vy y)(hl:y.length≤1073741824):Spec Tryz.prog 54 [.int .i64 (k),vy] W own (fun v ow=>∃ (r0:Value),v=r0∧IsS r0∧ow=ints 3 r0 (lpF (List.replicate y.length 0) k y)::own):=by
 refine Spec.enter Tryz.f54 _ Tryz.func54 rfl (n:=11) rfl rfl ?_
 refine Zs (Zr (Za rfl (Zn (Zt (Zs (Zr (Zm rfl (Zd (OD.len rfl rfl et22 rfl ey) rfl ?_))))))))
 refine G.step (OG.makeInts rfl et22 rfl rfl (by omega)) rfl rfl rfl ?_
 rintro v1 _ ⟨hs2,rfl⟩
 refine Zm rfl (Zm rfl (G.step (OG.call [v1,.int .i64 (k),vy] ent68 rfl rfl rfl rfl (by exact(listPlus_w hs2 (Ent.ints (i:=0) rfl) sy (Ent.drop 1 ey) (by rw[List.length_replicate];omega) (by rw[List.length_replicate];omega)))) rfl rfl rfl ?_))
 rintro v3 _ ⟨_,rfl,hs4,rfl⟩
 refine Za rfl (Zn (Zt (GC.ret ?_)))
 exact GE.body [0] 1 (res1 rfl rfl) rfl (⟨v3,rfl,hs4,rfl⟩)
end Go.Proofs.YtbmnnbglipkidaaGreatDoor
