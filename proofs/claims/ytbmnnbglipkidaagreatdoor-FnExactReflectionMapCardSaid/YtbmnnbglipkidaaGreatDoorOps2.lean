/-
  Further laws of operations in the words of XSep: strings, slices of strings, parts of slices, slices of structs, slices of slices.
-/
import Derived.Test.YtbmnnbglipkidaaGreatDoorZ33
namespace Go.Proofs.YtbmnnbglipkidaaGreatDoor
set_option linter.unusedVariables false
set_option linter.unusedSimpArgs false
open Go.RowKit
def CW (s:ByteArray)(k:Nat):Int:=(s[k]?.map fun b=>(b.toNat:Int)).getD 0
section
variable {P:Program}{n:Nat}{env:List (Nat × Value)}{W:World}{own:List Asn}{o:Oper}
theorem OD.indexStr {t:TypeId}{x y:Operand}{s:ByteArray}{k:Int}(hop:o.op = .index t x y)(ht:P.underlying t=some .string)(hx:ev env x=some (.string s))(hy:ev env y=some (.int .i64 k))(hk:0≤k∧k<(s.size:Nat)):OD P o n env W own (.int .u8 (CW s k.toNat)) own :=
  .of fun a w hf _=>by
    have hlt:k.toNat<s.size:=by omega
    have e:s[k.toNat]?=some s[k.toNat]:=getElem?_pos s k.toNat hlt
    simp only[execOp,hop,hf.ev hx,hf.ev hy]
    refine run_val ?_
    simp[Instr.index,run_underlying ht,asIntOf,hk.1,e,CW]
theorem OD.conv {s d:TypeId}{x:Operand}{k k':IntKind}{i:Int}(hop:o.op = .convert s d x)(hc:∀ i w,(convert s d (.int k i)).run P w = .ok (.int k' (k'.wrap i)) w)(hx:ev env x=some (.int k i)):OD P o n env W own (.int k' (k'.wrap i)) own :=
  .of fun a w hf _=>by
    simp only[execOp,hop,hf.ev hx]
    exact run_val (hc i w)
theorem OD.convI {s d:TypeId}{x:Operand}{k:IntKind}{i:Int}(hop:o.op = .convert s d x)(hc:∀ i w,(convert s d (.int k i)).run P w = .ok (.int .i64 (IntKind.i64.wrap i)) w)(hx:ev env x=some (.int k i))(hb : -9223372036854775808≤i∧i≤9223372036854775807):OD P o n env W own (.int .i64 i) own:=by
  have h:=OD.conv (P:=P) (n:=n) (W:=W) (own:=own) hop hc hx
  rwa [Aj hb.1 hb.2] at h
def strs (e:Nat)(v:Value)(xs:List ByteArray):Asn:=row e 1 v xs.length (xs.map Value.string)
def KQ (w:World)(v:Value)(xs:List ByteArray):Prop:=Sl w v xs.length 1 (xs.map Value.string)
theorem Ent.strs {i e:Nat}{v:Value}{xs:List ByteArray}(h:own[i]?=some (strs e v xs)):Ent own fun w=>KQ w v xs:=Ent.row h
section
variable {t:TypeId}{x y:Operand}{i e sz bytes m:Nat}{v z:Value}{cs:List Value}{xs ys:List ByteArray}{k:Int}
theorem OD.loadStr {pl:List (Nat × Nat)}{zero:Value}{j:Nat}(hop:o.op = .load e x)(ti:TI P e false 1 zero pl)(hx:ev env x=some (Aa v 1 j))(hv:Ent own fun w=>KQ w v xs)(hj:j<xs.length):OD P o n env W own (.string (xs.getD j ⟨#[]⟩)) own :=
  OD.loadElem hop ti hx hv hj (by simp[List.getD,hj])
theorem OG.buildStrs {t:TypeId}{m:Nat}{bytes:Nat}{os:List Operand}{us:List Value}(hop:o.op = .buildSlice t m ((List.range' 0 m).zip os).toArray)(et:ET P t e 1 bytes z)(hl:os.length=m)(hm:Nat.ble m 1000=true)(hx:Proofs.YtbmnnbglipkidaaGreatDoor.evs env os=some us)(hu:us=xs.map Value.string)(hi:xs.length=m) :
    OG P o n env W own fun v own'=>Ab v∧own'=strs e v xs::own:=by
  subst hu
  have h:=OG.buildRow (P:=P) (n:=n) (W:=W) (own:=own) hop et hl hm hx (by simp[Value.oneCell'])
  rw[← hi] at h
  exact h
theorem MX (xs:List ByteArray):∀ u∈xs.map Value.string,u.oneCell'=true:=by
  intro u hu
  obtain⟨s,_,rfl⟩:=List.mem_map.1 hu
  rfl
theorem OG.appendStrs (i:Nat){c:Call}{vx:Value}{bytes:Nat}(hop:o.op = .call c)(hc:c={ callee := .builtin .append,args:=#[x,y],argTypes:=#[t,t] })(et:ET P t e 1 bytes z)
    (hx:ev env x=some v) (hy:ev env y=some vx) (hi:own[i]?=some (strs e v xs)) (hv:Ent own fun w=>KQ w vx ys) (hb:(xs.length+ys.length)*bytes≤140737488355328∧xs.length+ys.length≤maxLen) :
    OG P o n env W own fun v' own'=>Ab v'∧own'=own.set i (strs e v' (xs++ys)):=by
  have h:=OG.append (P:=P) (n:=n) (W:=W) i hop hc et hx hy hi hv (MX _) hb
  simp only[strs,List.length_append,List.map_append]
  exact h
end
def Cc (sz:Nat)(v:Value)(l h:Nat):Value:=match v with
  | .slice a _ cap => .slice (if cap=l then a else a.map (·.add (l*sz))) (h - l) (cap - l)
  | _=>undef
theorem Ow {sz l h:Nat}{v:Value}(hv:Ab v):Ab (Cc sz v l h):=by
  obtain⟨a,m,cap,rfl⟩:=hv
  exact⟨_,_,_,rfl⟩
theorem Sl.sub {w:World}{v:Value}{m sz l h:Nat}{cs:List Value}(hv:Sl w v m sz cs)(hb:l≤h∧h≤m):Sl w (Cc sz v l h) (h - l) sz ((cs.drop (l*sz)).take ((h - l)*sz)):=by
  obtain⟨hl,ao,cap,rfl,h1,h2,h3,h4⟩:=hv
  have hmul:l*sz+(h - l)*sz≤m*sz:=by
    rw[← Nat.add_mul]
    exact Nat.mul_le_mul_right _ (by omega)
  refine⟨by simp[hl];omega,_,_,rfl,by omega,by omega,fun hn=>?_,fun hpos=>?_⟩
  · split at hn
    · rename_i e
      omega
    · cases ao with
      | none=>have:=h3 rfl;omega
      | some a=>simp at hn
  · obtain⟨b,off,rfl,hb',hc⟩:=h4 (by omega)
    have hne : ¬ cap=l:=by omega
    refine⟨b,off+l*sz,by simp only[if_neg hne,Option.map_some,Addr.add];split <;> simp_all,hb',fun k hk=>?_⟩
    rw[Nat.add_assoc,hc _ (by omega)]
    simp[List.getD,hk,List.getElem?_drop]
theorem OD.sliceSl {t:TypeId}{x y z:Operand}{e sz bytes m:Nat}{v zv:Value}{cs:List Value}{l h:Int}(hop:o.op = .slice t x (some y) (some z) none)(et:ET P t e sz bytes zv)(hx:ev env x=some v)(hy:ev env y=some (.int .i64 l))(hz:ev env z=some (.int .i64 h))(hv:Ent own fun w=>Sl w v m sz cs)(hb:0≤l∧l≤h∧h≤(m:Nat)) :
    OD P o n env W own (Cc sz v l.toNat h.toNat) own :=
  .of fun a w hf hs=>by
    obtain⟨_,ao,cap,rfl,hcap,_⟩:=hv W w hs
    obtain⟨i,hi,hz0,hz1,hz2⟩:=info_parts et.hi
    simp only[execOp,hop,hf.ev hx,hf.ev hy,hf.ev hz,Option.map_some,Option.map_none]
    refine run_val ?_
    have h1:0≤h∧h≤(cap:Nat):=⟨by omega,by omega⟩
    have h3:(h.toNat:Int)=h:=by omega
    have hso:(sizeOf e).run P w = .ok sz w:=by simp[sizeOf,typeInfo,hi,hz1]
    simp[Instr.sliceAt,Instr.slice,run_underlying et.ht,Instr.sliceBounds,Instr.sliceBound,asIntOf,h1,hb.1,h3,hb.2.1,hso,Cc]
theorem OD.sliceTo {t:TypeId}{x z:Operand}{e sz bytes m:Nat}{v zv:Value}{cs:List Value}{h:Int}(hop:o.op = .slice t x none (some z) none)(et:ET P t e sz bytes zv)(hx:ev env x=some v)(hz:ev env z=some (.int .i64 h))(hv:Ent own fun w=>Sl w v m sz cs)(hb:0≤h∧h≤(m:Nat)) :
    OD P o n env W own (Cc sz v 0 h.toNat) own :=
  .of fun a w hf hs=>by
    obtain⟨_,ao,cap,rfl,hcap,_⟩:=hv W w hs
    obtain⟨i,hi,hz0,hz1,hz2⟩:=info_parts et.hi
    simp only[execOp,hop,hf.ev hx,hf.ev hz,Option.map_some,Option.map_none]
    refine run_val ?_
    have h1:0≤h∧h≤(cap:Nat):=⟨by omega,by omega⟩
    have hso:(sizeOf e).run P w = .ok sz w:=by simp[sizeOf,typeInfo,hi,hz1]
    simp[Instr.sliceAt,Instr.slice,run_underlying et.ht,Instr.sliceBounds,Instr.sliceBound,asIntOf,h1,hso,Cc]
theorem OD.sliceFrom {t:TypeId}{x y:Operand}{e sz bytes m:Nat}{v zv:Value}{cs:List Value}{l:Int}(hop:o.op = .slice t x (some y) none none)(et:ET P t e sz bytes zv)(hx:ev env x=some v)(hy:ev env y=some (.int .i64 l))(hv:Ent own fun w=>Sl w v m sz cs)(hb:0≤l∧l≤(m:Nat)) :
    OD P o n env W own (Cc sz v l.toNat m) own :=
  .of fun a w hf hs=>by
    obtain⟨_,ao,cap,rfl,hcap,_⟩:=hv W w hs
    obtain⟨i,hi,hz0,hz1,hz2⟩:=info_parts et.hi
    simp only[execOp,hop,hf.ev hx,hf.ev hy,Option.map_some,Option.map_none]
    refine run_val ?_
    have hso:(sizeOf e).run P w = .ok sz w:=by simp[sizeOf,typeInfo,hi,hz1]
    simp[Instr.sliceAt,Instr.slice,run_underlying et.ht,Instr.sliceBounds,Instr.sliceBound,asIntOf,hb.1,hb.2,hso,Cc]
theorem Ent.subInts {v:Value}{xs:List Int}{l h:Nat}(hv:Ent own fun w=>Ints w v xs)(hb:l≤h∧h≤xs.length):Ent own fun w=>Ints w (Cc 1 v l h) ((xs.drop l).take (h - l)):=fun W w hs=>by
  have:=Sl.sub (hv W w hs) hb
  have hl:((xs.drop l).take (h - l)).length=h - l:=by simp;omega
  unfold Ints
  rw[hl]
  simpa [List.map_take,List.map_drop] using this
theorem Ent.subStrs {v:Value}{xs:List ByteArray}{l h:Nat}(hv:Ent own fun w=>KQ w v xs)(hb:l≤h∧h≤xs.length):Ent own fun w=>KQ w (Cc 1 v l h) ((xs.drop l).take (h - l)):=fun W w hs=>by
  have:=Sl.sub (hv W w hs) hb
  have hl:((xs.drop l).take (h - l)).length=h - l:=by simp;omega
  unfold KQ
  rw[hl]
  simpa [List.map_take,List.map_drop] using this
theorem A5.app:∀ {L M:List Asn} {F:Nat→Prop} {w:World},A5 (L++M) F w→∃ F1 F2:Nat→Prop,(∀ g,F g↔F1 g∨F2 g)∧(∀ g,F1 g→¬ F2 g)∧A5 L F1 w∧A5 M F2 w
  | [],M,F,w,h=>⟨fun _=>False,F,fun g=>by simp,fun _ h=>h.elim,fun _ h=>h,h⟩
  | A::L,M,F,w,⟨F1,F2,h1,h2,h3,h4⟩=>by
    obtain⟨G1,G2,g1,g2,g3,g4⟩:=A5.app h4
    refine⟨fun g=>F1 g∨G1 g,G2,fun g=>by rw[h1,g1,or_assoc],fun g hg hG=>?_,⟨F1,G1,fun _=>Iff.rfl,fun g hg hG=>h2 g hg ((g1 g).2 (.inl hG)),h3,g3⟩,g4⟩
    rcases hg with hg | hg
    · exact h2 g hg ((g1 g).2 (.inr hG))
    · exact g2 g hg hG
theorem A5.of_app:∀ {L M:List Asn} {F F1 F2:Nat→Prop} {w:World},(∀ g,F g↔F1 g∨F2 g)→(∀ g,F1 g→¬ F2 g)→A5 L F1 w→A5 M F2 w→A5 (L++M) F w
  | [],M,F,F1,F2,w,h1,h2,h3,h4=>h4.congr fun g=>by rw[h1];exact⟨fun h=>h.resolve_left (h3 g),.inr⟩
  | A::L,M,F,F1,F2,w,h1,h2,⟨G1,G2,g1,g2,g3,g4⟩,h4=>by
    refine⟨G1,fun g=>G2 g∨F2 g,fun g=>by rw[h1,g1,or_assoc],fun g hg hG=>?_,g3,A5.of_app (fun _=>Iff.rfl) (fun g hg=>h2 g ((g1 g).2 (.inr hg))) g4 h4⟩
    rcases hG with hG | hG
    · exact g2 g hg hG
    · exact h2 g ((g1 g).2 (.inl hg)) hG
def pack (L:List Asn):Asn where
  p F w:=A5 L F w
  loc h hw:=h.loc hw
theorem St.pack {w:World}{L:List Asn}(h:St W w (L++own)):St W w (pack L::own):=by
  obtain⟨h1,h2,h3,F,h4,h5⟩:=h
  obtain⟨F1,F2,f1,f2,f3,f4⟩:=h5.app
  exact⟨h1,h2,h3,F,h4,F1,F2,f1,f2,f3,f4⟩
theorem St.unpack {w:World}{L:List Asn}(h:St W w (Proofs.YtbmnnbglipkidaaGreatDoor.pack L::own)):St W w (L++own):=by
  obtain⟨h1,h2,h3,F,h4,F1,F2,f1,f2,f3,f4⟩:=h
  exact⟨h1,h2,h3,F,h4,A5.of_app f1 f2 f3 f4⟩
def many {α:Type}(A:Value→α→Asn)(vs:List Value)(xs:List α):Asn:=pack (List.zipWith A vs xs)
theorem St.many0 {α:Type}(A:Value→α→Asn){w:World}(h:St W w own):St W w (many A [] []::own):=St.pack h
theorem St.manyPush {α:Type}{A:Value→α→Asn}{vs:List Value}{xs:List α}{u:Value}{x:α}{w:World}(hl:vs.length=xs.length)(h:St W w (A u x::many A vs xs::own)):St W w (many A (vs++[u]) (xs++[x])::own):=by
  refine St.pack ?_
  rw[List.zipWith_append hl]
  have h1:St W w (many A vs xs::A u x::own):=h.perm (List.Perm.swap _ _ _)
  have h2:=St.unpack h1
  simpa using h2
theorem GC.many0 {α:Type}(A:Value→α→Asn){c:Code}{Q:Exit→Act→World→Prop}(h:GC P c Q n env W (many A [] []::own)):GC P c Q n env W own:=fun a w hf hs=>h a w hf (hs.many0 A)
theorem GE.many0 {α:Type}(A:Value→α→Asn){x:Exit}{Q:Exit→Act→World→Prop}(h:GE x Q n env W (many A [] []::own)):GE x Q n env W own:=fun a w hf hs=>h a w hf (hs.many0 A)
theorem GC.manyPush {α:Type}{A:Value→α→Asn}{vs:List Value}{xs:List α}{u:Value}{x:α}(hl:vs.length=xs.length){c:Code}{Q:Exit→Act→World→Prop}(h:GC P c Q n env W (many A (vs++[u]) (xs++[x])::own)):GC P c Q n env W (A u x::many A vs xs::own):=fun a w hf hs=>h a w hf (hs.manyPush hl)
theorem GE.manyPush {α:Type}{A:Value→α→Asn}{vs:List Value}{xs:List α}{u:Value}{x:α}(hl:vs.length=xs.length){e:Exit}{Q:Exit→Act→World→Prop}(h:GE e Q n env W (many A (vs++[u]) (xs++[x])::own)):GE e Q n env W (A u x::many A vs xs::own):=fun a w hf hs=>h a w hf (hs.manyPush hl)
theorem Ent.many {α:Type}{A:Value→α→Asn}{vs:List Value}{xs:List α}{i k:Nat}{V:World→Prop}{d:α}(h:own[i]?=some (many A vs xs))(h1:k<vs.length)(h2:k<xs.length)(hA:∀ F w,(A (vs.getD k undef) (xs.getD k d)).p F w→V w):Ent own V:=by
  rintro W w ⟨_,_,_,F,_,hH⟩
  obtain⟨F1,_,h3⟩:=hH.get h
  obtain⟨F2,_,h4⟩:=A5.get (L:=List.zipWith A vs xs) h3 (i:=k) (A:=A (vs.getD k undef) (xs.getD k d)) (by simp[List.getElem?_zipWith,List.getD,h1,h2])
  exact hA _ _ h4
theorem Ent.manyStrs {vs:List Value}{xs:List (List ByteArray)}{i k e:Nat}(h:own[i]?=some (Proofs.YtbmnnbglipkidaaGreatDoor.many (Proofs.YtbmnnbglipkidaaGreatDoor.strs e) vs xs))(hk:k<vs.length∧k<xs.length):Ent own fun w=>KQ w (vs.getD k undef) (xs.getD k []):=Ent.many (d:=[]) h hk.1 hk.2 fun _ _ hp=>hp.1.toSl
theorem Ent.manyInts {vs:List Value}{xs:List (List Int)}{i k e:Nat}(h:own[i]?=some (Proofs.YtbmnnbglipkidaaGreatDoor.many (Proofs.YtbmnnbglipkidaaGreatDoor.ints e) vs xs))(hk:k<vs.length∧k<xs.length):Ent own fun w=>Ints w (vs.getD k undef) (xs.getD k []):=Ent.many (d:=[]) h hk.1 hk.2 fun _ _ hp=>hp.1.toSl
def AllS (vs:List Value):Prop:=∀ u∈vs,Ab u
theorem AllS.get {vs:List Value}(h:AllS vs){k:Nat}(hk:k<vs.length):Ab (vs.getD k undef):=by
  have:vs.getD k undef=vs[k]:=by simp[List.getD,hk]
  rw[this]
  exact h _ (List.getElem_mem hk)
theorem AllS.nil:AllS []:=fun _ h=>by simp at h
theorem AllS.snoc {vs:List Value}{u:Value}(h:AllS vs)(hu:Ab u):AllS (vs++[u]):=fun x hx=>by
  rcases List.mem_append.1 hx with hx | hx
  · exact h x hx
  · simp at hx
    exact hx ▸ hu
theorem AllS.one {vs:List Value}(h:AllS vs):∀ u∈vs,u.oneCell'=true:=fun u hu=>(h u hu).one
theorem Td {rows:List (List Value)}{sz j:Nat}(h:∀ r∈rows,r.length=sz)(hj:j<rows.length):(rows.flatten.drop (j*sz)).take sz=rows.getD j []:=by
  induction rows generalizing j with
  | nil=>simp at hj
  | cons r rows ih =>
    have hr:=h r (by simp)
    cases j with
    | zero=>simp[hr]
    | succ j =>
      have:=ih (j:=j) (fun r hr=>h r (by simp[hr])) (by simpa using hj)
      rw[List.flatten_cons,Nat.add_mul,Nat.one_mul,Nat.add_comm,← List.drop_drop,List.drop_left' (by omega),this]
      simp
theorem OD.loadAggElem {e sz m:Nat}{x:Operand}{v:Value}{cs us:List Value}{pl:List (Nat × Nat)}{zero:Value}{j:Nat}(hop:o.op = .load e x)(ti:TI P e true sz zero pl)(hx:ev env x=some (Aa v sz j))(hv:Ent own fun w=>Sl w v m sz cs)(hj:j<m)(hu:(cs.drop (j*sz)).take sz=us)(hl:us.length=sz):OD P o n env W own (.agg us.toArray) own :=
  .of fun a w hf hs=>by
    have hsl:=hv W w hs
    have hcl:=hsl.1
    obtain⟨b,off,h1,h2⟩:=Di hsl hj
    have hmul:j*sz+sz≤m*sz:=by
      rw[← Nat.succ_mul]
      exact Nat.mul_le_mul_right _ hj
    have hlo:(loadCells ⟨b,off+j*sz,none⟩ us.length).run P w = .ok us.toArray w:=by
      refine run_loadCells_list w _ us fun k u hk=>?_
      have hkl:k<us.length:=(List.getElem?_eq_some_iff.1 hk).1
      rw[Addr.add_lit,Nat.add_assoc,h2 _ (by omega)]
      rw[← hu,List.getElem?_take_of_lt (by omega),List.getElem?_drop] at hk
      simp[List.getD,hk]
    rw[hl] at hlo
    simp only[execOp,hop,hf.ev hx,h1]
    refine run_val ?_
    simp only[Instr.loadAt,Instr.sureAddr,Sem.run_bind,Sem.run_pure,Result.andThen_ok,loadVar,ti.ag,ti.size,hlo,if_true]
theorem OG.build1 {t:TypeId}{e sz bytes:Nat}{z:Value}{x:Operand}{u:Value}{us:List Value}(hop:o.op = .buildSlice t 1 #[(0,x)])(et:ET P t e sz bytes z)(hx:ev env x=some u)(hu:u.cells=us.toArray)(hl:us.length=sz)(hs1:Nat.ble sz 1000=true) :
    OG P o n env W own fun v own'=>Ab v∧own'=row e sz v 1 us::own:=fun a w next Q hf hs hk=>by
  obtain⟨i,hi,hz0,hz1,hz2⟩:=info_parts et.hi
  have hp:=et.hp
  have hs1':sz≤1000:=Nat.le_of_ble_eq_true hs1
  have hfold:=F4 ((Array.range (1*sz)).map (z.cells[· % z.cells.size]!)).toList us 0 0 (by simp;omega)
  have hr:(execOp a.eval o).run P w = .ok (.value (.slice (some ⟨w.heap.size,0,none⟩) 1 1)) (w.alloc (.cells us.toArray e)):=by
    simp only[execOp,hop]
    refine run_val ?_
    have hso:(sizeOf e).run P w = .ok sz w:=by simp[sizeOf,typeInfo,hi,hz1]
    have hfill:Instr.fill (fun i=>some (i*sz,sz)) ((Array.range (1*sz)).map (z.cells[· % z.cells.size]!)) [(0,u)]=some us.toArray:=by
      simp only[Instr.fill,hu,Nat.zero_mul]
      rw[if_neg (by simp;omega)]
      have e1:∀ (l:List Value) (A:Array Value),l.toArray.zipIdx.foldl (fun cs (x:Value × Nat)=>cs.setIfInBounds (0+x.2) x.1) A=(l.zipIdx 0).foldl (fun cs (x:Value × Nat)=>cs.setIfInBounds (0+x.2) x.1) A:=by
        intro l A
        simp
      rw[e1]
      simp only[Nat.zero_add,Nat.add_zero] at hfold ⊢
      rw[Array.toArray_toList] at hfold
      rw[hfold]
      congr 2
      simp[hl]
    simp only[Instr.buildSlice,Sem.run_bind,run_underlying et.ht,Result.andThen_ok]
    simp only[hso,Result.andThen_ok]
    rw[if_neg (by omega)]
    simp only[Nat.one_mul] at hfill ⊢
    have hne : ¬ sz=0:=by omega
    simp[zeroValue,typeInfo,hi,hz0,newRow,hfill,hf.ev hx,hne]
  unfold Oper.wp
  rw[hr]
  refine hk _ _ _ ⟨⟨_,_,_,rfl⟩,rfl⟩ (C0 hs (.inr ⟨by simp[hl],w.heap.size,1,us.toArray,rfl,Nat.le_refl _,heap_alloc_new w _,Nat.le_refl _,by simp[maxLen],by simp[hl],?_⟩) ((Below.refl _ _).alloc (Nat.le_refl _) _))
  rw[List.take_of_length_le (by simp[hl])]
def lst (e:Nat)(v:Value)(us:List Value):Asn:=row e 1 v us.length us
theorem Ent.lst {i e:Nat}{v:Value}{us:List Value}(h:own[i]?=some (lst e v us)):Ent own fun w=>Sl w v us.length 1 us:=Ent.row h
theorem OG.buildLst {t:TypeId}{e m:Nat}{bytes:Nat}{z:Value}{xs:List Operand}{us:List Value}(hop:o.op = .buildSlice t m ((List.range' 0 m).zip xs).toArray)(et:ET P t e 1 bytes z)(hl:xs.length=m)(hm:Nat.ble m 1000=true)(hx:Proofs.YtbmnnbglipkidaaGreatDoor.evs env xs=some us)(h1:us.all (·.oneCell')=true)(hi:us.length=m) :
    OG P o n env W own fun v own'=>Ab v∧own'=Proofs.YtbmnnbglipkidaaGreatDoor.lst e v us::own:=by
  have h:=OG.buildRow (P:=P) (n:=n) (W:=W) (own:=own) hop et hl hm hx h1
  rw[← hi] at h
  exact h
theorem OG.appendLst (i:Nat){c:Call}{t:TypeId}{x y:Operand}{e bytes:Nat}{v vx z:Value}{us news:List Value}(hop:o.op = .call c)(hc:c={ callee := .builtin .append,args:=#[x,y],argTypes:=#[t,t] })(et:ET P t e 1 bytes z)
    (hx:ev env x=some v) (hy:ev env y=some vx) (hi:own[i]?=some (Proofs.YtbmnnbglipkidaaGreatDoor.lst e v us)) (hv:Ent own fun w=>Sl w vx news.length 1 news) (h1:news.all (·.oneCell')=true) (hb:(us.length+news.length)*bytes≤140737488355328∧us.length+news.length≤maxLen) :
    OG P o n env W own fun v' own'=>Ab v'∧own'=own.set i (Proofs.YtbmnnbglipkidaaGreatDoor.lst e v' (us++news)):=by
  have h:=OG.append (P:=P) (n:=n) (W:=W) i hop hc et hx hy hi hv (fun u hu=>by simpa using List.all_eq_true.1 h1 u hu) hb
  simp only[Proofs.YtbmnnbglipkidaaGreatDoor.lst,List.length_append]
  exact h
def rws (e sz:Nat)(v:Value)(rs:List (List Value)):Asn:=row e sz v rs.length rs.flatten
theorem Ent.rws {i e sz:Nat}{v:Value}{rs:List (List Value)}(h:own[i]?=some (rws e sz v rs)):Ent own fun w=>Sl w v rs.length sz rs.flatten:=Ent.row h
theorem OG.buildRws {t:TypeId}{e sz bytes:Nat}{z:Value}{x:Operand}{u:Value}{us:List Value}(hop:o.op = .buildSlice t 1 #[(0,x)])(et:ET P t e sz bytes z)(hx:ev env x=some u)(hu:u.cells=us.toArray)(hl:us.length=sz)(hs1:Nat.ble sz 1000=true) :
    OG P o n env W own fun v own'=>Ab v∧own'=Proofs.YtbmnnbglipkidaaGreatDoor.rws e sz v [us]::own:=by
  have h:=OG.build1 (P:=P) (n:=n) (W:=W) (own:=own) hop et hx hu hl hs1
  have e1 : [us].flatten=us:=by simp
  simp only[Proofs.YtbmnnbglipkidaaGreatDoor.rws,e1]
  exact h
theorem OG.buildRws0 {t:TypeId}{e sz bytes:Nat}{z:Value}(hop:o.op = .buildSlice t 0 #[])(et:ET P t e sz bytes z) :
    OG P o n env W own fun v own'=>Ab v∧own'=Proofs.YtbmnnbglipkidaaGreatDoor.rws e sz v []::own:=fun a w next Q hf hs hk=>by
  obtain⟨i,hi,hz0,hz1,hz2⟩:=info_parts et.hi
  have hr:(execOp a.eval o).run P w = .ok (.value (.slice (some ⟨w.heap.size,0,none⟩) 0 0)) (w.alloc (.cells #[] e)):=by
    simp only[execOp,hop]
    refine run_val ?_
    have hso:(sizeOf e).run P w = .ok sz w:=by simp[sizeOf,typeInfo,hi,hz1]
    have e0:(Array.map (fun _:Nat=>(default:Value)) (Array.range 0)) = #[]:=by simp[Array.range]
    simp only[Instr.buildSlice,Sem.run_bind,run_underlying et.ht,Result.andThen_ok]
    simp only[hso,Result.andThen_ok]
    simp[Instr.fill,newRow,e0]
  unfold Oper.wp
  rw[hr]
  refine hk _ _ _ ⟨⟨_,_,_,rfl⟩,rfl⟩ (C0 hs (.inr ⟨by simp,w.heap.size,0,#[],rfl,Nat.le_refl _,heap_alloc_new w _,Nat.le_refl _,by simp[maxLen],by simp,by simp⟩) ((Below.refl _ _).alloc (Nat.le_refl _) _))
theorem OG.appendRws (i:Nat){c:Call}{t:TypeId}{x y:Operand}{e sz bytes:Nat}{v vx z:Value}{rs news:List (List Value)}(hop:o.op = .call c)(hc:c={ callee := .builtin .append,args:=#[x,y],argTypes:=#[t,t] })(et:ET P t e sz bytes z)
    (hx:ev env x=some v) (hy:ev env y=some vx) (hi:own[i]?=some (Proofs.YtbmnnbglipkidaaGreatDoor.rws e sz v rs)) (hv:Ent own fun w=>Sl w vx news.length sz news.flatten) (h1:news.flatten.all (·.oneCell')=true) (hb:(rs.length+news.length)*bytes≤140737488355328∧rs.length+news.length≤maxLen) :
    OG P o n env W own fun v' own'=>Ab v'∧own'=own.set i (Proofs.YtbmnnbglipkidaaGreatDoor.rws e sz v' (rs++news)):=by
  have h:=OG.append (P:=P) (n:=n) (W:=W) i hop hc et hx hy hi hv (fun u hu=>by simpa using List.all_eq_true.1 h1 u hu) hb
  simp only[Proofs.YtbmnnbglipkidaaGreatDoor.rws,List.length_append,List.flatten_append]
  exact h
theorem OD.loadRws {e sz:Nat}{x:Operand}{v:Value}{rs:List (List Value)}{us:List Value}{pl:List (Nat × Nat)}{zero:Value}{j:Nat}(hop:o.op = .load e x)(ti:TI P e true sz zero pl)(hx:ev env x=some (Aa v sz j))(hv:Ent own fun w=>Sl w v rs.length sz rs.flatten)(hj:j<rs.length)(hr:∀ r∈rs,r.length=sz)(hu:rs.getD j []=us):OD P o n env W own (.agg us.toArray) own :=
  OD.loadAggElem hop ti hx hv hj ((Td hr hj).trans hu) (by
    subst hu
    have e:rs.getD j []=rs[j]:=by simp[List.getD,hj]
    rw[e]
    exact hr _ (List.getElem_mem hj))
theorem GE.nilStrs {x:Exit}{Q:Exit→Act→World→Prop}(e:Nat)(h:GE x Q n env W (Proofs.YtbmnnbglipkidaaGreatDoor.strs e (.slice none 0 0) []::own)):GE x Q n env W own:=fun a w hf hs=>h a w hf (hs.nilRow e 1)
def Cb (a b:ByteArray):Bool:=a.toList==b.toList
def RN (a b:ByteArray):Bool:=Op.bytesLess a.toList b.toList || a.toList==b.toList
section
variable {t yt:TypeId}{x y:Operand}{a b:ByteArray}
theorem OD.strEql (hop:o.op = .binOp .eql t x y yt)(hx:ev env x=some (.string a))(hy:ev env y=some (.string b)):OD P o n env W own (.bool (Cb a b)) own :=
  .bin hop hx hy fun w=>by simp[eqGuard,binOp,Op.stringOp,Cb]
theorem OD.strNeq (hop:o.op = .binOp .neq t x y yt)(hx:ev env x=some (.string a))(hy:ev env y=some (.string b)):OD P o n env W own (.bool (!Cb a b)) own :=
  .bin hop hx hy fun w=>by simp[eqGuard,binOp,Op.stringOp,Cb]
theorem OD.strGtr (hop:o.op = .binOp .gtr t x y yt)(hx:ev env x=some (.string a))(hy:ev env y=some (.string b)):OD P o n env W own (.bool (!RN a b)) own :=
  .bin hop hx hy fun w=>by simp[eqGuard,binOp,Op.stringOp,RN]
theorem OD.strAdd (hop:o.op = .binOp .add t x y yt)(hx:ev env x=some (.string a))(hy:ev env y=some (.string b))(hb:a.size+b.size≤9223372036854775807):OD P o n env W own (.string (a++b)) own :=
  .bin hop hx hy fun w=>by
    have h : ¬ (((a.size+b.size:Nat):Int) > IntKind.i64.max):=by
      have:IntKind.i64.max=9223372036854775807:=rfl
      omega
    simp only[eqGuard,binOp,Op.stringOp,if_neg h]
    rfl
end
def C7 (v:Value):Bool:=match v with | .slice none _ _=>true | _=>false
theorem OD.eqlNil {t yt e:TypeId}{x y:Operand}{v:Value}(hop:o.op = .binOp .eql t x y yt)(ht:P.underlying t=some (.slice e))(hx:ev env x=some v)(hv:Ab v)(hy:ev env y=some (.slice none 0 0)):OD P o n env W own (.bool (C7 v)) own :=
  .bin hop hx hy fun w=>by
    obtain⟨ao,m,cap,rfl⟩:=hv
    cases ao with
    | none=>simpa [eqGuard,C7] using Lib.run_eql_slice_nil (P:=P) w t e none m cap 0 0 ht
    | some a=>simpa [eqGuard,C7] using Lib.run_eql_slice_nil (P:=P) w t e (some a) m cap 0 0 ht
theorem OH {w:World}{v:Value}{xs:List Int}(h:Ints w v xs)(hn:C7 v=true):xs = []:=by
  obtain⟨hl,ao,cap,rfl,h1,h2,h3,h4⟩:=h
  cases ao with
  | none =>
    have:=h3 rfl
    exact List.eq_nil_of_length_eq_zero (by omega)
  | some a=>simp[C7] at hn
theorem GC.fact {c:Code}{Q:Exit→Act→World→Prop}{p:Prop}(hp:Ent own fun _=>p)(h:p→GC P c Q n env W own):GC P c Q n env W own:=fun a w hf hs=>h (hp W w hs) a w hf hs
theorem GE.fact {e:Exit}{Q:Exit→Act→World→Prop}{p:Prop}(hp:Ent own fun _=>p)(h:p→GE e Q n env W own):GE e Q n env W own:=fun a w hf hs=>h (hp W w hs) a w hf hs
theorem AR.offU {l:List Oper}{K:Value→List Asn→Prop}{j s:Nat}{b:Bool}(h:K undef own)(hg:o.guard=some (j,b))(hj:(l.toArray[j]?).bind (·.dst)=some s)(hb:lk s env=some undef):AR P l o n env W own K:=fun a w next Q hf hs hk=>by
  rw[if_neg (by simp only[Region.wanted,hg,yielded,hj];simp[hf.slot s _ hb,undef])]
  exact hk _ _ _ h hs
end
end Go.Proofs.YtbmnnbglipkidaaGreatDoor
