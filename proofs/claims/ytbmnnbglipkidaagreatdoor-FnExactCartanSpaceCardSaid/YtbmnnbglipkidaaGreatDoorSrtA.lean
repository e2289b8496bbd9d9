/-
  The library's SortFunc on a slice of lists that a call owns, by any strict order that a function of two lists tells: what it holds behind the call is a permutation, in order.
-/
import Derived.Test.YtbmnnbglipkidaaGreatDoorDOps
import Derived.Test.YtbmnnbglipkidaaGreatDoorZ23
import Derived.Test.YtbmnnbglipkidaaGreatDoorZ17
import Derived.Test.YtbmnnbglipkidaaGreatDoorNest
import Derived.Shelf.SlSortCmp.Whole1
import Derived.Test.YtbmnnbglipkidaaGreatDoorWCmp
import Derived.Test.YtbmnnbglipkidaaGreatDoorRts
namespace Go.Proofs.YtbmnnbglipkidaaGreatDoor
set_option linter.unusedVariables false
set_option linter.unusedSimpArgs false
open Go.RowKit
open Go.Sort in
theorem grow_of {w w':World}(h:D.St w w' [D.frozen w]):∃ q os,w'=grow (w.drewN q) os:=by
  have hb:=D.frozen_below h
  have hd:=h.output.2
  refine⟨w'.drawn - w.drawn,w'.heap.extract w.heap.size w'.heap.size,?_⟩
  have e1:w'.heap=w.heap++w'.heap.extract w.heap.size w'.heap.size:=by
    apply Array.ext_getElem?
    intro i
    by_cases hi:i<w.heap.size
    · rw[Array.getElem?_append_left hi]
      exact hb.block i hi
    · rw[Array.getElem?_append_right (by omega),Array.getElem?_extract]
      have:=hb.size
      by_cases h2:i<w'.heap.size
      · rw[if_pos (by omega)]
        congr 1
        omega
      · rw[if_neg (by omega),Array.getElem?_eq_none (by omega)]
  cases w with | mk heap tape drawn os output =>
  cases w' with | mk heap' tape' drawn' os' output' =>
  have h1:=hb.os
  have h2:=hb.tape
  have h3:=hb.output
  simp only at h1 h2 h3 e1 hd
  subst h1 h2 h3
  simp only[grow,World.drewN]
  congr 1
  omega
theorem ent_own {w:World}{v:Value}{x:List Int}(h:Ints w v x):D.Ent [D.frozen w] fun u=>Ints u v x:=D.ent_ints h
structure StrictL (rc:List Int→List Int→Int):Prop where
  irr:∀ x,¬ rc x x<0
  trans:∀ {x y z},rc x y<0→rc y z<0→rc x z<0
  ntrans:∀ {x y z},¬ rc x y<0→¬ rc y z<0→¬ rc x z<0
open Go.Sort in
theorem swo_rc {α:Type}{rc:List Int→List Int→Int}(hr:StrictL rc)(f:α→List Int):SWO (ltOf fun(x y:α)=>rc (f x) (f y)) where
  irrefl x:=decide_eq_false (hr.irr _)
  trans x y z h k:=decide_eq_true (hr.trans (of_decide_eq_true h) (of_decide_eq_true k))
  ntrans x y z h k:=decide_eq_false (hr.ntrans (of_decide_eq_false h) (of_decide_eq_false k))
def Tells (rc:List Int→List Int→Int)(F:Nat):Prop:=∀ {W:World} {own:List D.Asn} {vx vy:Value} {x y:List Int},IsS vx→D.Ent own (fun w=>Ints w vx x)→IsS vy→D.Ent own (fun w=>Ints w vy y)→x.length≤1073741824→y.length≤1073741824→D.Spec Tryz.prog F [vx,vy] W own fun v ow=>v = .int .i64 (rc x y)∧ow=own
def El (w:World)(g:Nat):Type:={ p:Value × List Int // (Ints w p.1 p.2∧p.2.length≤1073741824)∧IsS p.1∧p.1.ownBlock≠some g }
instance (w:World)(g:Nat):Inhabited (El w g):=⟨⟨(.slice none 0 0,[]),⟨Sl.nil w 1,by simp⟩,IsS.nil,by simp[Value.ownBlock]⟩⟩
def El.enc {w:World}{g:Nat}(x:El w g):Value:=x.1.1
def El.dat {w:World}{g:Nat}(x:El w g):List Int:=x.1.2
theorem El.one {w:World}{g:Nat}:OneCell (El.enc (w:=w) (g:=g)):=fun x=>x.2.2.1.one
section
open Go.Sort
theorem below_grow3 (w:World)(k:Nat)(os:Array Obj):Below w.heap.size w (grow (w.drewN k) os):=by
  refine⟨rfl,rfl,rfl,by simp[grow],fun i hi=>?_⟩
  simp only[grow]
  rw[Array.getElem?_append_left (by simpa using hi)]
  rfl
theorem put_enc {α:Type}[Inhabited α]{enc:α→Value}{w:World}{g e n:Nat}{cur:Array Value}{R:Array α}(hg:w.heap[g]?=some (.cells cur e (0,0)))(hR:R.size≤cur.size) :
    putRow enc (Go.Sort.ahead w n) g 0 R=(w.setRow g (cur.toList.take 0++R.toList.map enc++cur.toList.drop (0+(R.toList.map enc).length)).toArray).drewN n:=by
  unfold putRow mapBlock Go.Sort.ahead World.setRow World.drewN
  simp only
  congr 1
  apply Array.ext_getElem?
  intro i
  rw[Array.getElem?_modify,Array.getElem?_modify]
  by_cases hi:g=i
  · subst hi
    rw[if_pos rfl,if_pos rfl,hg]
    simp only[Option.map_some,onCells]
    congr 2
    apply Array.ext_getElem?
    intro k
    simp only[putCells,Array.getElem?_mapIdx,List.take_zero,List.nil_append,Nat.zero_add,List.length_map,List.getElem?_toArray,Nat.zero_le,true_and,Nat.sub_zero,Array.length_toList]
    by_cases hk:k<R.size
    · rw[List.getElem?_append_left (by simpa using hk),List.getElem?_map,Array.getElem?_toList,Array.getElem?_eq_getElem hk,Array.getElem?_eq_getElem (by omega:k<cur.size)]
      simp[hk]
    · rw[List.getElem?_append_right (by simpa using Nat.le_of_not_lt hk),List.length_map,Array.length_toList,List.getElem?_drop,show R.size+(k - R.size)=k by omega,Array.getElem?_toList]
      cases hc:cur[k]? with
      | none=>rfl
      | some c=>simp[hk]
  · rw[if_neg hi,if_neg hi]
theorem ints_sortWorld {w:World}{g m:Nat}{dk:Array (El w g)}{os:Array Obj}(x:El w g):Ints (sortWorld El.enc w g 0 m dk os) x.enc x.dat:=by
  have hx:=x.2.1.1
  refine Sl.same hx ?_ fun _ k hk hlt=>?_
  · simp[sortWorld,grow,putRow,mapBlock,Go.Sort.ahead]
  · have hne:g≠k:=fun e=>x.2.2.2 (Eq.trans hk (congrArg some e.symm))
    unfold sortWorld grow
    simp only
    rw[Array.getElem?_append_left (by simpa [putRow,mapBlock,Go.Sort.ahead] using hlt)]
    unfold putRow mapBlock Go.Sort.ahead
    simp only
    rw[Array.getElem?_modify,if_neg hne]
theorem cmp_lays {rc:List Int→List Int→Int}{F:Nat}(hF:Tells rc F){w:World}{g n:Nat}:CmpLays1 Tryz.prog F #[] (El.enc (w:=w) (g:=g)) (fun x y=>rc x.dat y.dat) g 0 n w:=fun m os dk _ x y=>by
  have h:=hF (W:=sortWorld El.enc w g 0 m dk os) (own:=[D.frozen (sortWorld El.enc w g 0 m dk os)]) (vx:=x.enc) (x:=x.dat) (vy:=y.enc) (y:=y.dat) x.2.2.1 (ent_own (ints_sortWorld x)) y.2.2.1 (ent_own (ints_sortWorld y)) x.2.1.2 y.2.1.2
  exact(h _ (D.frozen_self _)).mono fun e w' ⟨v,own',he,⟨hv,ho⟩,hs⟩=>⟨by rw[he,hv],by subst ho;exact grow_of hs⟩
end
open Go.Sort in
theorem perm_of_in {α:Type}[Inhabited α]{d d':Array α}(h:PermIn 0 d.size d d'):d'.toList.Perm d.toList:=by
  obtain⟨h1,_,h3⟩:=h
  rw[← h1] at h3
  have e1:d'.extract 0 d'.size=d':=by simp
  have e2:d.extract 0 d'.size=d:=by rw[h1];simp
  rw[e1,e2] at h3
  exact h3
open Go.Sort in
theorem pair_of_in {rc:List Int→List Int→Int}{w:World}{g:Nat}{d:Array (El w g)}(h:SortedIn (ltOf fun(x y:El w g)=>rc x.dat y.dat) 0 d.size d):(d.toList.map El.dat).Pairwise fun a b=>¬ rc b a<0:=by
  rw[List.pairwise_iff_getElem]
  intro i j hi hj hij
  have hi':i<d.size:=by simpa using hi
  have hj':j<d.size:=by simpa using hj
  have:=h i j (Nat.zero_le _) hij hj'
  rw[getElem!_pos d i hi',getElem!_pos d j hj'] at this
  simpa [ltOf] using this
open Go.Sort in
theorem sort_w {rc:List Int→List Int→Int}(hr:StrictL rc){F:Nat}(hF:Tells rc F)(hE:∀ args w,(callFunc F args).run Tryz.prog w = .ok (.enter F args) w){W:World}{own:List Asn}{v:Value}{us:List Value}{xs:List (List Int)}(sv:IsS v)(hus:AllS us)(hl:us.length=xs.length)(hpos:0<xs.length)(hn:xs.length≤1073741824)(hx:∀ x∈xs,x.length≤1073741824) :
    Spec Tryz.prog 112 [v,.func (.func F) #[] #[]] W (lst 22 v us::many (ints 3) us xs::own) fun r ow =>
      ∃ (us':List Value) (xs':List (List Int)),r = .tuple #[]∧AllS us'∧us'.length=xs'.length∧xs'.Perm xs∧(xs'.Pairwise fun a b=>¬ rc b a<0)∧ow=lst 22 v us'::many (ints 3) us' xs'::own:=by
  intro w hs
  obtain⟨F1,⟨k3,k4⟩,f2,f3⟩:=hs.upd (i:=0) rfl
  rcases k3 with⟨h0,_⟩ | ⟨_,g,cap,cur,rfl,_,hg,hnc,hmm,hsz,ht⟩
  · omega
  have hread:∀ k,k<us.length→(Ints w (us.getD k undef) (xs.getD k [])∧(us.getD k undef).ownBlock≠some g):=fun k hk=>by
    refine⟨Ent.manyInts (own:=lst 22 _ us::many (ints 3) us xs::own) (i:=1) rfl ⟨hk,by omega⟩ W w hs,fun e=>?_⟩
    obtain⟨_,_,_,F,_,A1,A2,_,a2,⟨_,a4⟩,G1,G2,g1,_,g3,_⟩:=hs
    have hA:A1 g:=(a4 g).2 rfl
    obtain⟨F3,hF3,h4⟩:=Held.get (L:=List.zipWith (ints 3) us xs) (show Held _ G1 w from g3) (i:=k) (A:=ints 3 (us.getD k undef) (xs.getD k [])) (by
      have h2:k<xs.length:=by omega
      simp[List.getElem?_zipWith,List.getD,hk,h2])
    exact a2 g hA ((g1 g).2 (.inl (hF3 g ((h4.2 g).2 e))))
  have hxl:∀ k,k<us.length→(xs.getD k []).length≤1073741824:=fun k hk=>by
    have h2:k<xs.length:=by omega
    have e:xs.getD k []=xs[k]:=by simp[List.getD,h2]
    rw[e]
    exact hx _ (List.getElem_mem h2)
  obtain⟨d,hd⟩:∃ d:Array (El w g),d=Array.ofFn fun i:Fin us.length=>(⟨(us.getD i undef,xs.getD i []),⟨(hread i i.2).1,hxl i i.2⟩,hus.get i.2,(hread i i.2).2⟩:El w g):=⟨_,rfl⟩
  have hds:d.size=us.length:=by rw[hd];exact Array.size_ofFn
  have hde:∀ k,(hk:k<us.length)→d[k]! = (⟨(us.getD k undef,xs.getD k []),⟨(hread k hk).1,hxl k hk⟩,hus.get hk,(hread k hk).2⟩:El w g):=fun k hk=>by
    have h1:k<d.size:=by omega
    rw[getElem!_pos d k h1]
    subst hd
    exact Array.getElem_ofFn _
  have hbx:Bx w g 22 cur.toList:=by simpa [Bx] using hg
  have htk:cur.toList.take us.length=us:=by simpa using ht
  have hH:Holds El.enc w g 0 d:=fun j hj=>by
    have hj':j<us.length:=by omega
    refine⟨?_,hbx.free _⟩
    rw[hbx.cell,Nat.zero_add,hde j hj']
    have e:cur.toList[j]?=us[j]?:=by
      rw[← htk,List.getElem?_take_of_lt hj']
    rw[e]
    simp[El.enc,List.getD,hj']
  have hz1:d.toList.map El.enc=us:=by
    refine List.ext_getElem (by simp[hds]) fun k h1 h2=>?_
    have h3:k<d.size:=by omega
    have:=hde k h2
    rw[getElem!_pos d k h3] at this
    simp[this,El.enc,List.getD,h2]
  have hz2:d.toList.map El.dat=xs:=by
    refine List.ext_getElem (by simp[hds,hl]) fun k h1 h2=>?_
    have h3:k<d.size:=by omega
    have:=hde k (by omega)
    rw[getElem!_pos d k h3] at this
    simp[this,El.dat,List.getD,h2]
  have hcall:=Any.slices_SortFunc (P:=Tryz.prog) (ρ:=Tryz.l6_ren) Tryz.l6 El.enc El.one (fun x y=>rc x.dat y.dat) (swo_rc hr El.dat) F #[] g 0 cap d w hE (cmp_lays hF) hH hbx.lt (by omega)
  rw[hds] at hcall
  refine hcall.mono fun e w' ⟨he,d',m,os,hp,hso,hw⟩=>?_
  rw[← hds] at hp hso
  have hpm:=perm_of_in hp
  have hls:d'.size=us.length:=by rw[hp.1,hds]
  have hle:(d'.toList.map El.enc).length=us.length:=by rw[List.length_map,Array.length_toList,hls]
  rw[← hp.1] at hso
  have hperm:((us.zip xs).Perm ((d'.toList.map El.enc).zip (d'.toList.map El.dat))):=by
    rw[← hz1,← hz2,List.zip_map',List.zip_map']
    exact(hpm.map _).symm
  have hdp:=hpm.map El.dat
  rw[hz2] at hdp
  refine⟨_,_,he,⟨d'.toList.map El.enc,d'.toList.map El.dat,rfl,fun u hu=>?_,by simp,hdp,pair_of_in hso,rfl⟩,?_⟩
  · obtain⟨x,_,rfl⟩:=List.mem_map.1 hu
    exact x.2.2.1
  · have hcz:cur.size=cap:=by simpa using hsz
    have hs3:St W (w.setRow g (cur.toList.take 0++d'.toList.map El.enc++cur.toList.drop (0+(d'.toList.map El.enc).length)).toArray) (lst 22 (.slice (some ⟨g,0,none⟩) us.length cap) (d'.toList.map El.enc)::many (ints 3) us xs::own):=by
      refine f3 _ _ (fun k=>k=g) rfl rfl rfl (by simp[World.setRow]) ⟨.inr ⟨by simp,g,cap,_,by rw[hle],Nat.zero_le _,setRow_heap w g _ _ _ _ hg,by omega,hmm,?_,?_⟩,fun k=>by simp[Value.ownBlock,eq_comm]⟩ (fun k _ hk=>setRow_other w g k _ fun e=>hk ((k4 k).2 (by simp[Value.ownBlock,e]))) fun k hk=>?_
      · simp only[List.take_zero,List.nil_append,Nat.zero_add,List.size_toArray,List.length_append,List.length_drop,Array.length_toList,hle]
        omega
      · simp only[List.take_zero,List.nil_append,Nat.zero_add,Nat.mul_one]
        rw[List.take_left']
        rfl
      · subst hk
        have hF:=(k4 k).2 (by simp[Value.ownBlock])
        exact⟨.inl hF,by have:=f2 _ hF;simpa [World.setRow] using this⟩
    have hs4:St W w' (lst 22 (.slice (some ⟨g,0,none⟩) us.length cap) (d'.toList.map El.enc)::many (ints 3) us xs::own):=by
      rw[hw]
      show St W (grow (putRow El.enc (Go.Sort.ahead w m) g 0 d') os) _
      rw[put_enc hg (by omega)]
      exact hs3.below (below_grow3 _ _ _)
    exact((hs4.perm (List.Perm.swap _ _ _)).manyPerm hperm).perm (List.Perm.swap _ _ _)
theorem strict_rcmp:StrictL rcmp:=⟨fun x h=>of_decide_eq_false (ltR_irr x) h,fun h k=>rcmp_trans h k,fun {x y z} h k=>of_decide_eq_false (ltR_ntrans (x:=x) (y:=y) (z:=z) (decide_eq_false h) (decide_eq_false k))⟩
theorem tells_rcmp:Tells rcmp 113:=fun {_ _ _ _ _ _} sx ex sy ey h1 h2=>D.rootLess_w sx ex sy ey h1 h2
end Go.Proofs.YtbmnnbglipkidaaGreatDoor
