/-
  Further laws of operations in the words of XSep: the least of two, fields of elements, stores of structs into elements.
-/
import Derived.Lib.FrozenHead
import Derived.Shelf.Spec.SlicesGrow
import Derived.Test.YtbmnnbglipkidaaGreatDoorWCmp
namespace Go.Proofs.YtbmnnbglipkidaaGreatDoor
set_option linter.unusedVariables false
set_option linter.unusedSimpArgs false
open Go.RowKit
section
variable {P:Program}{n:Nat}{env:List (Nat × Value)}{W:World}{own:List Asn}{o:Oper}
theorem OD.min {c:Call}{x y:Operand}{k:IntKind}{i j:Int}{ts:Array TypeId}(hop:o.op = .call c)(hc:c={ callee := .builtin .min,args:=#[x,y],argTypes:=ts })(hx:ev env x=some (.int k i))(hy:ev env y=some (.int k j)):OD P o n env W own (.int k (Min.min i j)) own :=
  .of fun a w hf _=>by
    subst hc
    have e:(if j<i then j else i)=Min.min i j:=by
      by_cases h:j<i
      · rw[if_pos h,Int.min_eq_right (by omega)]
      · rw[if_neg h,Int.min_eq_left (by omega)]
    have h:=run_min_int2 (P:=P) (w:=w) ts o.type k k i j
    rw[e] at h
    simp only[execOp,hop,resolve,invoke,builtin,hf.ev hx,hf.ev hy]
    simpa [hf.ev hx,hf.ev hy] using run_val h
section
variable {e sz m:Nat}{x:Operand}{v u zero:Value}{cs us:List Value}{pl:List (Nat × Nat)}{j d i:Nat}
end
end
end Go.Proofs.YtbmnnbglipkidaaGreatDoor
namespace Go.Proofs
set_option linter.unusedVariables false
set_option linter.unusedSimpArgs false
open Go.Shelf
def Tryz.l4_ren:Go.Shelf.Ren:=⟨fun | 4=>169 | n=>n,fun | 22=>22 | 25=>3 | 3=>3 | 4=>4 | 9=>9 | 20=>20 | 0=>0 | n=>n,fun | n=>n⟩
theorem Tryz.l4:Go.Proofs.Lays8.n4 Tryz.prog Tryz.l4_ren:={
  mixed:=by kernel_rfl,
  f4:=⟨"slices.Grow[[]int,int]",by decide,Tryz.func169.trans (congrArg some (by kernel_rfl))⟩,
  t0:=Tryz.underlying0,
  a0:=Tryz.isAgg0,
  z0:=Tryz.sizeOf0,
  v0:=Tryz.zeroValue0,
  t3:=Tryz.underlying3,
  a3:=Tryz.isAgg3,
  z3:=Tryz.sizeOf3,
  v3:=Tryz.zeroValue3,
  t4:=Tryz.underlying4,
  a4:=Tryz.isAgg4,
  z4:=Tryz.sizeOf4,
  v4:=Tryz.zeroValue4,
  t9:=Tryz.underlying9,
  a9:=Tryz.isAgg9,
  z9:=Tryz.sizeOf9,
  v9:=Tryz.zeroValue9,
  t20:=Tryz.underlying20,
  a20:=Tryz.isAgg20,
  z20:=Tryz.sizeOf20,
  v20:=Tryz.zeroValue20,
  t22:=Tryz.underlying22,
  a22:=Tryz.isAgg22,
  z22:=Tryz.sizeOf22,
  v22:=Tryz.zeroValue22 }
end Go.Proofs
namespace Go.Proofs.YtbmnnbglipkidaaGreatDoor
set_option linter.unusedVariables false
set_option linter.unusedSimpArgs false
open Go.RowKit
theorem Nq (w:World)(o:Obj):(w.alloc o).heap.size=w.heap.size+1:=Array.size_push ..
theorem bP {W:World}{own:List Asn}{n:Int}(hn:0≤n∧n≤1073741824) :
    Spec Tryz.prog 169 [.slice none 0 0,.int .i64 n] W own fun v ow=>∃ r,v=r∧Ab r∧ow=ints 3 r []::own:=by
  intro w hs
  obtain⟨n,rfl⟩:∃ k:Nat,n=(k:Int):=⟨n.toNat,by omega⟩
  by_cases h0:n=0
  · subst h0
    refine(Any8.slices_Grow_room Tryz.l4 none 0 0 0 w (by omega) (by omega) (by omega) (by omega)).mono fun e w' ⟨he,hw⟩=>⟨_,_,he,⟨_,rfl,Ab.nil,rfl⟩,?_⟩
    subst hw
    exact hs.push (Below.refl _ _) _ (fun _=>False) ⟨.inl ⟨rfl,rfl,rfl⟩,fun k=>by simp[Value.ownBlock]⟩ fun k hk=>hk.elim
  · have hm:(Tryz.prog.info? (Tryz.l4_ren.t 25)).map (fun i=>(i.zero,i.size,i.bytes))=some (some (.int .i64 0),1,8):=by kernel_rfl
    obtain⟨i0,hi0,hi1⟩:=Option.map_eq_some_iff.1 hm
    have hz0:=congrArg (·.1) hi1
    have hs0:i0.size=1:=congrArg (·.2.1) hi1
    have hb0:i0.bytes=8:=congrArg (·.2.2) hi1
    refine(Any8.slices_Grow_grow Tryz.l4 i0 _ hi0 hz0 (by omega) none 0 0 n [] w (by omega) (by omega) (by rw[hb0];omega) (by omega) (by simp) (fun _=>rfl) (fun _ h=>by cases h)).mono fun e w' ⟨he,hw⟩=>⟨_,_,he,⟨_,rfl,⟨_,_,_,rfl⟩,rfl⟩,?_⟩
    subst hw
    have hge:=grownCap_ge w (0+n) 0 (Tryz.l4_ren.t 25)
    have hmx:=grownCap_le_maxLen w (0+n) 0 (Tryz.l4_ren.t 25) (by simp[maxLen];omega)
    refine hs.push ?_ _ (fun k=>k=w.heap.size) ⟨.inr ⟨rfl,w.heap.size,_,_,rfl,Nat.zero_le _,heap_alloc_new w.drew _,Nat.zero_le _,hmx,?_,?_⟩,fun k=>by simp[Value.ownBlock,eq_comm]⟩ (fun k hk=>by subst hk;exact⟨Nat.le_refl _,by rw[Nq];exact Nat.lt_succ_self _⟩)
    · exact((Below.refl _ _).drew).alloc (Nat.le_refl _) _
    · rw[Array.size_append,Array.size_append,size_zeroCells,size_zeroCells]
      rw[Nat.zero_add] at hge
      simp[Value.cells]
      omega
    · simp
section
variable {P:Program}{n:Nat}{env:List (Nat × Value)}{W:World}{own:List Asn}
theorem Ent.len {v:Value}{m k sz:Nat}{cs:List Value}(h:Ent own fun w=>Sl w v m sz cs)(e:m=k):Ent own fun w=>Sl w v k sz cs:=e ▸ h
theorem Ent.subLst {v:Value}{us:List Value}{l h:Nat}(hv:Ent own fun w=>Sl w v us.length 1 us)(hb:l≤h∧h≤us.length):Ent own fun w=>Sl w (Cc 1 v l h) ((us.drop l).take (h - l)).length 1 ((us.drop l).take (h - l)):=fun W w hs=>by
  have:=Sl.sub (hv W w hs) hb
  have hl:((us.drop l).take (h - l)).length=h - l:=by simp;omega
  rw[hl]
  simpa using this
theorem AllS.part {us:List Value}(h:AllS us)(l m:Nat):AllS ((us.drop l).take m):=fun u hu=>h u (List.mem_of_mem_drop (List.mem_of_mem_take hu))
theorem AllS.app {us vs:List Value}(h:AllS us)(k:AllS vs):AllS (us++vs):=fun u hu=>by
  rcases List.mem_append.1 hu with hu | hu
  · exact h u hu
  · exact k u hu
theorem Rx {us:List Value}{xs:List (List Int)}{k:Nat}(h1:k<us.length)(h2:k<xs.length):(us.getD k undef,xs.getD k [])∈us.zip xs:=by
  have e:(us.getD k undef,xs.getD k [])=(us.zip xs)[k]'(by simp;omega):=by simp[List.getD,h1,h2]
  rw[e]
  exact List.getElem_mem _
theorem QA {us:List Value}{xs:List (List Int)}{q:Value × List Int}(h:q∈us.zip xs):∃ k,k<us.length∧k<xs.length∧us.getD k undef=q.1∧xs.getD k []=q.2:=by
  obtain⟨k,hk,e⟩:=List.mem_iff_getElem.1 h
  simp only[List.length_zip] at hk
  refine⟨k,by omega,by omega,?_,?_⟩
  · rw[← e]
    simp[List.getD,show k<us.length by omega]
  · rw[← e]
    simp[List.getD,show k<xs.length by omega]
theorem Ent.manyZip {us vs:List Value}{xs ys:List (List Int)}{i k e:Nat}(h:own[i]?=some (Proofs.YtbmnnbglipkidaaGreatDoor.many (Proofs.YtbmnnbglipkidaaGreatDoor.ints e) us xs))(hz:∀ q∈vs.zip ys,q∈us.zip xs)(hk:k<vs.length∧k<ys.length):Ent own fun w=>Ints w (vs.getD k undef) (ys.getD k []):=by
  obtain⟨j,h1,h2,h3,h4⟩:=QA (hz _ (Rx hk.1 hk.2))
  simp only at h3 h4
  rw[← h3,← h4]
  exact Ent.manyInts h ⟨h1,h2⟩
theorem Hq {α:Type}(A:Value→α→Asn):∀ (vs:List Value) (xs:List α),List.zipWith A vs xs=(vs.zip xs).map fun p=>A p.1 p.2
  | [],_=>rfl
  | _::_,[]=>rfl
  | v::vs,x::xs=>by simp[Hq A vs xs]
theorem St.manyPerm {w:World}{α:Type}{A:Value→α→Asn}{vs us:List Value}{xs ys:List α}(h:St W w (many A vs xs::own))(hp:(vs.zip xs).Perm (us.zip ys)):St W w (many A us ys::own):=by
  refine St.pack ?_
  have h1:=St.unpack h
  rw[Hq] at h1 ⊢
  exact h1.perm ((hp.map _).append_right _)
theorem GE.manyPerm {α:Type}{A:Value→α→Asn}{vs us:List Value}{xs ys:List α}(hp:(vs.zip xs).Perm (us.zip ys)){e:Exit}{Q:Exit→Act→World→Prop}(h:GE e Q n env W (many A us ys::own)):GE e Q n env W (many A vs xs::own):=fun a w hf hs=>h a w hf (hs.manyPerm hp)
end
theorem Pj {x:List Int}{L:List (List Int)}{a:Nat}(ha:0<a)(h:Sr x (L.getD (a - 1) [])=true):CT x L a=CT x L (a - 1):=by
  obtain⟨b,rfl⟩:∃ b,a=b+1:=⟨a - 1,by omega⟩
  rw[Nat.add_sub_cancel] at h ⊢
  rw[CT,if_pos h]
theorem rInsAt_no {x:List Int}{L:List (List Int)}{a:Nat}(ha:0<a)(h:Sr x (L.getD (a - 1) [])=false):CT x L a=a:=by
  obtain⟨b,rfl⟩:∃ b,a=b+1:=⟨a - 1,by omega⟩
  rw[Nat.add_sub_cancel] at h
  rw[CT,h]
  rfl
theorem BU {α:Type}{L:List α}{p:Nat}{d:α}(hp:p<L.length):L.take (p+1)=L.take p++[L.getD p d]:=by
  rw[List.take_succ_eq_append_getElem hp]
  simp[List.getD,hp]
theorem OA {us vs:List Value}{fs os:List (List Int)}{p a:Nat}(hul:us.length=fs.length)(hp:p<fs.length)(hvl:vs.length=os.length)(h:((us.zip fs).take p).Perm (vs.zip os))(ha:a≤os.length) :
    ((us.zip fs).take (p+1)).Perm ((vs.take a++[us.getD p undef]++vs.drop a).zip (os.take a++[fs.getD p []]++os.drop a)):=by
  have e1:(us.zip fs).take (p+1)=(us.zip fs).take p++[(us.getD p undef,fs.getD p [])]:=by
    rw[BU (d:=(undef,[])) (by simp;omega)]
    congr 2
    have hpu:p<us.length:=by omega
    rw[List.getD_eq_getElem?_getD,List.getElem?_eq_getElem (by simp;omega)]
    simp[List.getD,hp,hpu]
  have e2:(vs.take a++[us.getD p undef]++vs.drop a).zip (os.take a++[fs.getD p []]++os.drop a)=(vs.zip os).take a++[(us.getD p undef,fs.getD p [])]++(vs.zip os).drop a:=by
    rw[List.zip_append (by simp;omega),List.zip_append (by simp;omega)]
    simp only[List.zip,List.take_zipWith,List.drop_zipWith]
    rfl
  rw[e1,e2]
  have h2:(vs.zip os).Perm ((vs.zip os).take a++(vs.zip os).drop a):=by rw[List.take_append_drop]
  refine((h.trans h2).append_right _).trans ?_
  rw[List.append_assoc,List.append_assoc]
  exact List.Perm.append_left _ List.perm_append_comm
theorem NB {fs os:List (List Int)}{p a:Nat}(hp:p<fs.length)(hos:os=(fs.take p).foldl Lf [])(ha:CT (fs.getD p []) os os.length=a):os.take a++[fs.getD p []]++os.drop a=(fs.take (p+1)).foldl Lf []:=by
  rw[BU (d:=[]) hp,List.foldl_append,← hos]
  show _=Lf os (fs.getD p [])
  rw[Lf,ha]
theorem Q5 {fs:List (List Int)}:∀ (p:Nat),p≤fs.length→((fs.take p).foldl Lf []).length=p
  | 0,_=>by simp
  | p+1,h=>by
    rw[BU (d:=[]) (by omega),List.foldl_append]
    simp only[List.foldl_cons,List.foldl_nil]
    rw[TP,Q5 p (by omega)]
theorem Ru {n:Int}{d:List Int}{fs os:List (List Int)}{p:Nat}(hf:fs=rFd n d)(hos:os=(fs.take p).foldl Lf [])(hp:fs.length≤p):os=rSt n d:=by
  rw[hos,List.take_of_length_le hp,hf]
  rfl
theorem YK {us vs:List Value}{fs os:List (List Int)}{p j:Nat}(hvl:vs.length=os.length)(h:((us.zip fs).take p).Perm (vs.zip os))(hj:j<os.length):∃ k,k<fs.length∧os.getD j []=fs.getD k []:=by
  obtain⟨k,h1,h2,h3,h4⟩:=QA (List.mem_of_mem_take (h.mem_iff.2 (Rx (by omega) hj)))
  exact⟨k,h2,h4.symm⟩
theorem YR {us vs:List Value}{fs os:List (List Int)}{p:Nat}(h:((us.zip fs).take p).Perm (vs.zip os)):∀ q∈vs.zip os,q∈us.zip fs:=fun q hq=>List.mem_of_mem_take (h.mem_iff.2 hq)
theorem X5 {us vs:List Value}{fs os:List (List Int)}{p:Nat}(hul:us.length=fs.length)(hp:fs.length≤p)(h:((us.zip fs).take p).Perm (vs.zip os)):(us.zip fs).Perm (vs.zip os):=by
  rwa [List.take_of_length_le (by simp;omega)] at h
theorem rOne_yes {n:Int}{d x y:List Int}{L:List (List Int)}{i:Nat}(e:y=AK n d x i)(h1:EJ y=true)(h2:plF L y<0):L++[y]=DI n d x L i:=by
  have h3:(!(L.contains y))=true:=by rw[← P1];exact decide_eq_true h2
  rw[DI,← e,h1,h3]
  rfl
theorem rOne_no1 {n:Int}{d x y:List Int}{L:List (List Int)}{i:Nat}(e:y=AK n d x i)(h1:EJ y=false):L=DI n d x L i:=by
  rw[DI,← e,h1]
  rfl
theorem rOne_no2 {n:Int}{d x y:List Int}{L:List (List Int)}{i:Nat}(e:y=AK n d x i)(h2 : ¬ plF L y<0):L=DI n d x L i:=by
  have h3:(!(L.contains y))=false:=by rw[← P1];exact decide_eq_false h2
  rw[DI,← e,h3,Bool.and_false]
  rfl
theorem Fk {m i:Nat}(h:i<m):(List.replicate m (0:Int)).set i 1=unitL m i:=by
  refine A0 (by simp[unitL]) fun k hk=>?_
  have hk':k<m:=by simpa using hk
  have hu:(unitL m i).getD k 0=if k=i then 1 else 0:=by simp[unitL,List.getD,hk']
  rw[hu]
  by_cases e:k=i
  · subst e
    rw[BE (by simpa using hk'),if_pos rfl]
  · rw[Br (fun h=>e h.symm),if_neg e]
    simp[List.getD,hk']
theorem FK {m i:Nat}:(List.range i).map (unitL m)++[unitL m i]=(List.range (i+1)).map (unitL m):=by rw[List.range_succ,List.map_append];rfl
theorem Bf (m i:Nat):(unitL m i).length=m:=by simp[unitL]
theorem RtOk.first {n:Int}{d:List Int}(h:RtOk n d){i:Nat}(hi:n.toNat≤i)(hi2:i≤n.toNat):rC n d 40 ((List.range i).map (unitL n.toNat)) 0=some (rFd n d):=by
  have e:i=n.toNat:=by omega
  subst e
  exact h.run
theorem RtOk.inner {n:Int}{d:List Int}(h:RtOk n d){fs gs:List (List Int)}{k i:Nat}(hpre:∀ i,i≤n.toNat→Pre ((List.range i).foldl (DI n d (fs.getD k [])) fs) (rFd n d))(hk:k<fs.length)(hi:i≤n.toNat)(hg:gs=(List.range i).foldl (DI n d (fs.getD k [])) fs) :
    k<gs.length∧gs.getD k []=fs.getD k []∧gs.length≤30∧(gs.getD k []).length=n.toNat∧(∀ j,0≤(gs.getD k []).getD j 0∧(gs.getD k []).getD j 0≤10)∧(∀ j,j<gs.length→(gs.getD j []).length=n.toNat):=by
  have h1:Pre gs (rFd n d):=by rw[hg];exact hpre i hi
  have h2:Pre fs gs:=by rw[hg];exact HU (i:=0) (Nat.zero_le _)
  have h3:=h2.len
  have h4:=h.fget h1 (show k<gs.length by omega)
  exact⟨by omega,h2.get hk,Nat.le_trans h1.len h.few,h4.1,h4.2,fun j hj=>(h.fget h1 hj).1⟩
theorem RtOk.arI {n:Int}{d:List Int}(h:RtOk n d){x y:List Int}{i:Nat}(e:x=y)(hl:x.length=n.toNat)(hb:∀ j,0≤x.getD j 0∧x.getD j 0≤10)(hi:i<n.toNat):arI n d (i:Int) x=AK n d y i:=by
  subst e
  exact VF h.mat (fun k _=>by have:=hb k;omega) hl h.rk (by simpa using hi)
open Go.Sort in
theorem Y5 {w w':World}(h:D.St w w' [D.frozen w]):∃ q os,w'=grow (w.drewN q) os:=by
  have hb:=D.frozen_below h
  have hd:=h.output.2
  refine⟨w'.drawn - w.drawn,w'.heap.extract w.heap.size w'.heap.size,?_⟩
  have e1:w'.heap=w.heap++w'.heap.extract w.heap.size w'.heap.size:=by
    apply Array.ext_getElem?
    intro i
    by_cases hi:i<w.heap.size
    · rw[Array.getElem?_append_left hi]
      exact hb.block i hi
    · rw[Array.getElem?_append_right (by omega),Array.getElem?_extract]
      have:=hb.size
      by_cases h2:i<w'.heap.size
      · rw[if_pos (by omega)]
        congr 1
        omega
      · rw[if_neg (by omega),Array.getElem?_eq_none (by omega)]
  cases w with | mk heap tape drawn os output =>
  cases w' with | mk heap' tape' drawn' os' output' =>
  have h1:=hb.os
  have h2:=hb.tape
  have h3:=hb.output
  simp only at h1 h2 h3 e1 hd
  subst h1 h2 h3
  simp only[grow,World.drewN]
  congr 1
  omega
theorem Qk {w:World}{v:Value}{x:List Int}(h:Ints w v x):D.Ent [D.frozen w] fun u=>Ints u v x:=D.ent_ints h
structure StrictL (rc:List Int→List Int→Int):Prop where
  irr:∀ x,¬ rc x x<0
  trans:∀ {x y z},rc x y<0→rc y z<0→rc x z<0
  ntrans:∀ {x y z},¬ rc x y<0→¬ rc y z<0→¬ rc x z<0
open Go.Sort in
theorem dh {α:Type}{rc:List Int→List Int→Int}(hr:StrictL rc)(f:α→List Int):SWO (ltOf fun(x y:α)=>rc (f x) (f y)) where
  irrefl x:=decide_eq_false (hr.irr _)
  trans x y z h k:=decide_eq_true (hr.trans (of_decide_eq_true h) (of_decide_eq_true k))
  ntrans x y z h k:=decide_eq_false (hr.ntrans (of_decide_eq_false h) (of_decide_eq_false k))
def Vj (rc:List Int→List Int→Int)(F:Nat):Prop:=∀ {W:World} {own:List D.Asn} {vx vy:Value} {x y:List Int},Ab vx→D.Ent own (fun w=>Ints w vx x)→Ab vy→D.Ent own (fun w=>Ints w vy y)→x.length≤1073741824→y.length≤1073741824→D.Spec Tryz.prog F [vx,vy] W own fun v ow=>v = .int .i64 (rc x y)∧ow=own
def El (w:World)(g:Nat):Type:={ p:Value × List Int // (Ints w p.1 p.2∧p.2.length≤1073741824)∧Ab p.1∧p.1.ownBlock≠some g }
instance (w:World)(g:Nat):Inhabited (El w g):=⟨⟨(.slice none 0 0,[]),⟨Sl.nil w 1,by simp⟩,Ab.nil,by simp[Value.ownBlock]⟩⟩
def El.enc {w:World}{g:Nat}(x:El w g):Value:=x.1.1
def El.dat {w:World}{g:Nat}(x:El w g):List Int:=x.1.2
theorem El.one {w:World}{g:Nat}:OneCell (El.enc (w:=w) (g:=g)):=fun x=>x.2.2.1.one
section
open Go.Sort
theorem Ny (w:World)(k:Nat)(os:Array Obj):Below w.heap.size w (grow (w.drewN k) os):=by
  refine⟨rfl,rfl,rfl,by simp[grow],fun i hi=>?_⟩
  simp only[grow]
  rw[Array.getElem?_append_left (by simpa using hi)]
  rfl
theorem YW {α:Type}[Inhabited α]{enc:α→Value}{w:World}{g e n:Nat}{cur:Array Value}{R:Array α}(hg:w.heap[g]?=some (.cells cur e (0,0)))(hR:R.size≤cur.size) :
    putRow enc (Go.Sort.ahead w n) g 0 R=(w.setRow g (cur.toList.take 0++R.toList.map enc++cur.toList.drop (0+(R.toList.map enc).length)).toArray).drewN n:=by
  unfold putRow mapBlock Go.Sort.ahead World.setRow World.drewN
  simp only
  congr 1
  apply Array.ext_getElem?
  intro i
  rw[Array.getElem?_modify,Array.getElem?_modify]
  by_cases hi:g=i
  · subst hi
    rw[if_pos rfl,if_pos rfl,hg]
    simp only[Option.map_some,onCells]
    congr 2
    apply Array.ext_getElem?
    intro k
    simp only[putCells,Array.getElem?_mapIdx,List.take_zero,List.nil_append,Nat.zero_add,List.length_map,List.getElem?_toArray,Nat.zero_le,true_and,Nat.sub_zero,Array.length_toList]
    by_cases hk:k<R.size
    · rw[List.getElem?_append_left (by simpa using hk),List.getElem?_map,Array.getElem?_toList,Array.getElem?_eq_getElem hk,Array.getElem?_eq_getElem (by omega:k<cur.size)]
      simp[hk]
    · rw[List.getElem?_append_right (by simpa using Nat.le_of_not_lt hk),List.length_map,Array.length_toList,List.getElem?_drop,show R.size+(k - R.size)=k by omega,Array.getElem?_toList]
      cases hc:cur[k]? with
      | none=>rfl
      | some c=>simp[hk]
  · rw[if_neg hi,if_neg hi]
theorem EV {w:World}{g m:Nat}{dk:Array (El w g)}{os:Array Obj}(x:El w g):Ints (sortWorld El.enc w g 0 m dk os) x.enc x.dat:=by
  have hx:=x.2.1.1
  refine Sl.same hx ?_ fun _ k hk hlt=>?_
  · simp[sortWorld,grow,putRow,mapBlock,Go.Sort.ahead]
  · have hne:g≠k:=fun e=>x.2.2.2 (Eq.trans hk (congrArg some e.symm))
    unfold sortWorld grow
    simp only
    rw[Array.getElem?_append_left (by simpa [putRow,mapBlock,Go.Sort.ahead] using hlt)]
    unfold putRow mapBlock Go.Sort.ahead
    simp only
    rw[Array.getElem?_modify,if_neg hne]
theorem Un {rc:List Int→List Int→Int}{F:Nat}(hF:Vj rc F){w:World}{g n:Nat}:CmpLays1 Tryz.prog F #[] (El.enc (w:=w) (g:=g)) (fun x y=>rc x.dat y.dat) g 0 n w:=fun m os dk _ x y=>by
  have h:=hF (W:=sortWorld El.enc w g 0 m dk os) (own:=[D.frozen (sortWorld El.enc w g 0 m dk os)]) (vx:=x.enc) (x:=x.dat) (vy:=y.enc) (y:=y.dat) x.2.2.1 (Qk (EV x)) y.2.2.1 (Qk (EV y)) x.2.1.2 y.2.1.2
  exact(h _ (D.frozen_self _)).mono fun e w' ⟨v,own',he,⟨hv,ho⟩,hs⟩=>⟨by rw[he,hv],by subst ho;exact Y5 hs⟩
end
open Go.Sort in
theorem Pk {α:Type}[Inhabited α]{d d':Array α}(h:PermIn 0 d.size d d'):d'.toList.Perm d.toList:=by
  obtain⟨h1,_,h3⟩:=h
  rw[← h1] at h3
  have e1:d'.extract 0 d'.size=d':=by simp
  have e2:d.extract 0 d'.size=d:=by rw[h1];simp
  rw[e1,e2] at h3
  exact h3
open Go.Sort in
theorem O6 {rc:List Int→List Int→Int}{w:World}{g:Nat}{d:Array (El w g)}(h:SortedIn (ltOf fun(x y:El w g)=>rc x.dat y.dat) 0 d.size d):(d.toList.map El.dat).Pairwise fun a b=>¬ rc b a<0:=by
  rw[List.pairwise_iff_getElem]
  intro i j hi hj hij
  have hi':i<d.size:=by simpa using hi
  have hj':j<d.size:=by simpa using hj
  have:=h i j (Nat.zero_le _) hij hj'
  rw[getElem!_pos d i hi',getElem!_pos d j hj'] at this
  simpa [ltOf] using this
open Go.Sort in
theorem bQ {rc:List Int→List Int→Int}(hr:StrictL rc){F:Nat}(hF:Vj rc F)(hE:∀ args w,(callFunc F args).run Tryz.prog w = .ok (.enter F args) w){W:World}{own:List Asn}{v:Value}{us:List Value}{xs:List (List Int)}(sv:Ab v)(hus:AllS us)(hl:us.length=xs.length)(hpos:0<xs.length)(hn:xs.length≤1073741824)(hx:∀ x∈xs,x.length≤1073741824) :
    Spec Tryz.prog 112 [v,.func (.func F) #[] #[]] W (lst 22 v us::many (ints 3) us xs::own) fun r ow =>
      ∃ (us':List Value) (xs':List (List Int)),r = .tuple #[]∧AllS us'∧us'.length=xs'.length∧xs'.Perm xs∧(xs'.Pairwise fun a b=>¬ rc b a<0)∧ow=lst 22 v us'::many (ints 3) us' xs'::own:=by
  intro w hs
  obtain⟨F1,⟨k3,k4⟩,f2,f3⟩:=hs.upd (i:=0) rfl
  rcases k3 with⟨h0,_⟩ | ⟨_,g,cap,cur,rfl,_,hg,hnc,hmm,hsz,ht⟩
  · omega
  have hread:∀ k,k<us.length→(Ints w (us.getD k undef) (xs.getD k [])∧(us.getD k undef).ownBlock≠some g):=fun k hk=>by
    refine⟨Ent.manyInts (own:=lst 22 _ us::many (ints 3) us xs::own) (i:=1) rfl ⟨hk,by omega⟩ W w hs,fun e=>?_⟩
    obtain⟨_,_,_,F,_,A1,A2,_,a2,⟨_,a4⟩,G1,G2,g1,_,g3,_⟩:=hs
    have hA:A1 g:=(a4 g).2 rfl
    obtain⟨F3,hF3,h4⟩:=A5.get (L:=List.zipWith (ints 3) us xs) (show A5 _ G1 w from g3) (i:=k) (A:=ints 3 (us.getD k undef) (xs.getD k [])) (by
      have h2:k<xs.length:=by omega
      simp[List.getElem?_zipWith,List.getD,hk,h2])
    exact a2 g hA ((g1 g).2 (.inl (hF3 g ((h4.2 g).2 e))))
  have hxl:∀ k,k<us.length→(xs.getD k []).length≤1073741824:=fun k hk=>by
    have h2:k<xs.length:=by omega
    have e:xs.getD k []=xs[k]:=by simp[List.getD,h2]
    rw[e]
    exact hx _ (List.getElem_mem h2)
  obtain⟨d,hd⟩:∃ d:Array (El w g),d=Array.ofFn fun i:Fin us.length=>(⟨(us.getD i undef,xs.getD i []),⟨(hread i i.2).1,hxl i i.2⟩,hus.get i.2,(hread i i.2).2⟩:El w g):=⟨_,rfl⟩
  have hds:d.size=us.length:=by rw[hd];exact Array.size_ofFn
  have hde:∀ k,(hk:k<us.length)→d[k]! = (⟨(us.getD k undef,xs.getD k []),⟨(hread k hk).1,hxl k hk⟩,hus.get hk,(hread k hk).2⟩:El w g):=fun k hk=>by
    have h1:k<d.size:=by omega
    rw[getElem!_pos d k h1]
    subst hd
    exact Array.getElem_ofFn _
  have hbx:Bx w g 22 cur.toList:=by simpa [Bx] using hg
  have htk:cur.toList.take us.length=us:=by simpa using ht
  have hH:Holds El.enc w g 0 d:=fun j hj=>by
    have hj':j<us.length:=by omega
    refine⟨?_,hbx.free _⟩
    rw[hbx.cell,Nat.zero_add,hde j hj']
    have e:cur.toList[j]?=us[j]?:=by
      rw[← htk,List.getElem?_take_of_lt hj']
    rw[e]
    simp[El.enc,List.getD,hj']
  have hz1:d.toList.map El.enc=us:=by
    refine List.ext_getElem (by simp[hds]) fun k h1 h2=>?_
    have h3:k<d.size:=by omega
    have:=hde k h2
    rw[getElem!_pos d k h3] at this
    simp[this,El.enc,List.getD,h2]
  have hz2:d.toList.map El.dat=xs:=by
    refine List.ext_getElem (by simp[hds,hl]) fun k h1 h2=>?_
    have h3:k<d.size:=by omega
    have:=hde k (by omega)
    rw[getElem!_pos d k h3] at this
    simp[this,El.dat,List.getD,h2]
  have hcall:=Any.slices_SortFunc (P:=Tryz.prog) (ρ:=Tryz.l6_ren) Tryz.l6 El.enc El.one (fun x y=>rc x.dat y.dat) (dh hr El.dat) F #[] g 0 cap d w hE (Un hF) hH hbx.lt (by omega)
  rw[hds] at hcall
  refine hcall.mono fun e w' ⟨he,d',m,os,hp,hso,hw⟩=>?_
  rw[← hds] at hp hso
  have hpm:=Pk hp
  have hls:d'.size=us.length:=by rw[hp.1,hds]
  have hle:(d'.toList.map El.enc).length=us.length:=by rw[List.length_map,Array.length_toList,hls]
  rw[← hp.1] at hso
  have hperm:((us.zip xs).Perm ((d'.toList.map El.enc).zip (d'.toList.map El.dat))):=by
    rw[← hz1,← hz2,List.zip_map',List.zip_map']
    exact(hpm.map _).symm
  have hdp:=hpm.map El.dat
  rw[hz2] at hdp
  refine⟨_,_,he,⟨d'.toList.map El.enc,d'.toList.map El.dat,rfl,fun u hu=>?_,by simp,hdp,O6 hso,rfl⟩,?_⟩
  · obtain⟨x,_,rfl⟩:=List.mem_map.1 hu
    exact x.2.2.1
  · have hcz:cur.size=cap:=by simpa using hsz
    have hs3:St W (w.setRow g (cur.toList.take 0++d'.toList.map El.enc++cur.toList.drop (0+(d'.toList.map El.enc).length)).toArray) (lst 22 (.slice (some ⟨g,0,none⟩) us.length cap) (d'.toList.map El.enc)::many (ints 3) us xs::own):=by
      refine f3 _ _ (fun k=>k=g) rfl rfl rfl (by simp[World.setRow]) ⟨.inr ⟨by simp,g,cap,_,by rw[hle],Nat.zero_le _,setRow_heap w g _ _ _ _ hg,by omega,hmm,?_,?_⟩,fun k=>by simp[Value.ownBlock,eq_comm]⟩ (fun k _ hk=>setRow_other w g k _ fun e=>hk ((k4 k).2 (by simp[Value.ownBlock,e]))) fun k hk=>?_
      · simp only[List.take_zero,List.nil_append,Nat.zero_add,List.size_toArray,List.length_append,List.length_drop,Array.length_toList,hle]
        omega
      · simp only[List.take_zero,List.nil_append,Nat.zero_add,Nat.mul_one]
        rw[List.take_left']
        rfl
      · subst hk
        have hF:=(k4 k).2 (by simp[Value.ownBlock])
        exact⟨.inl hF,by have:=f2 _ hF;simpa [World.setRow] using this⟩
    have hs4:St W w' (lst 22 (.slice (some ⟨g,0,none⟩) us.length cap) (d'.toList.map El.enc)::many (ints 3) us xs::own):=by
      rw[hw]
      show St W (grow (putRow El.enc (Go.Sort.ahead w m) g 0 d') os) _
      rw[YW hg (by omega)]
      exact hs3.below (Ny _ _ _)
    exact((hs4.perm (List.Perm.swap _ _ _)).manyPerm hperm).perm (List.Perm.swap _ _ _)
theorem NJ:StrictL Er:=⟨fun x h=>of_decide_eq_false (XM x) h,fun h k=>K0 h k,fun {x y z} h k=>of_decide_eq_false (Ps (x:=x) (y:=y) (z:=z) (decide_eq_false h) (decide_eq_false k))⟩
theorem P0:Vj Er 113:=fun {_ _ _ _ _ _} sx ex sy ey h1 h2=>D.rootLess_w sx ex sy ey h1 h2
end Go.Proofs.YtbmnnbglipkidaaGreatDoor
