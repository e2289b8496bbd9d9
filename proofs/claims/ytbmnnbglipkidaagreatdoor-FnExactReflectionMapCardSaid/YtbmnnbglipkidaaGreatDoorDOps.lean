/-
  Once more, with draws that are counted: the laws of single operations in the words of XSep: what each yields, and what is owned behind it.
-/
import Derived.Test.YtbmnnbglipkidaaGreatDoorDSep
namespace Go.Proofs.YtbmnnbglipkidaaGreatDoor.D
set_option linter.unusedVariables false
set_option linter.unusedSimpArgs false
open Go.RowKit
section
variable {P:Program}{n:Nat}{env:List (Nat × Value)}{W:World}{own:List Asn}{o:Oper}
theorem run_val {s:Sem Value}{v:Value}{w w':World}(h:s.run P w = .ok v w'):(do pure (Next.value (← s)):Sem Next).run P w = .ok (.value v) w':=by
  simp[h]
theorem OD.of {v:Value}(h:∀ a w,Fr n env a→St W w own→(execOp a.eval o).run P w = .ok (.value v) w):OD P o n env W own v own:=fun a w next Q hf hs hk=>by
  unfold Oper.wp
  rw[h a w hf hs]
  exact hk _ _ _ ⟨rfl,rfl⟩ hs
theorem OD.move {x:Operand}{v:Value}(hop:o.op = .move x)(hx:ev env x=some v):OD P o n env W own v own := .of fun a w hf _=>by simp[execOp,hop,hf.ev hx]
theorem OD.assign {x:Operand}{v:Value}(hop:o.op = .assign x)(hx:ev env x=some v):OD P o n env W own v own := .of fun a w hf _=>by simp[execOp,hop,hf.ev hx]
theorem OD.extract {x:Operand}{i:Nat}{vs:Array Value}{v:Value}(hop:o.op = .extract x i)(hx:ev env x=some (.tuple vs))(hi:vs[i]?=some v):OD P o n env W own v own :=
  .of fun a w hf _=>by simp[execOp,hop,hf.ev hx,Instr.extract,hi]
theorem OD.makeFunc {fn:Fn}{first captured:List Operand}{us vs:List Value}(hop:o.op = .makeFunc fn first.toArray captured.toArray)(hf':first.map (ev env)=us.map some)(hc:captured.map (ev env)=vs.map some) :
    OD P o n env W own (.func fn us.toArray vs.toArray) own :=
  .of fun a w hf _=>by
    have key:∀ (l:List Operand) (us:List Value),l.map (ev env)=us.map some→l.map a.eval=us:=by
      intro l
      induction l with
      | nil=>intro us h;cases us <;> simp_all
      | cons x l ih =>
        intro us h
        cases us with
        | nil=>simp at h
        | cons u us =>
          simp only[List.map_cons,List.cons.injEq] at h ⊢
          exact⟨hf.ev h.1,ih us h.2⟩
    simp[execOp,hop,Instr.makeFunc,key _ _ hf',key _ _ hc]
theorem OD.bin {op:BinOp}{t yt:TypeId}{x y:Operand}{u u' v:Value}(hop:o.op = .binOp op t x y yt)(hx:ev env x=some u)(hy:ev env y=some u')
    (hr:∀ w,(do eqGuard op t x y u u';binOp op t u u':Sem Value).run P w = .ok v w):OD P o n env W own v own := .of fun a w hf _=>by
  simp only[execOp,hop,hf.ev hx,hf.ev hy]
  exact run_val (hr w)
theorem Aj {x:Int}(h1 : -9223372036854775808≤x)(h2:x≤9223372036854775807):IntKind.i64.wrap x=x:=by
  rw[IntKind.wrap_i64]
  omega
section
variable {t yt:TypeId}{x y:Operand}{k:IntKind}{i j:Int}
theorem OD.add (hop:o.op = .binOp .add t x y yt)(hx:ev env x=some (.int k i))(hy:ev env y=some (.int k j)):OD P o n env W own (.int k (k.wrap (i+j))) own :=
  .bin hop hx hy fun w=>by simp[eqGuard,binOp,Op.intArith]
theorem OD.sub (hop:o.op = .binOp .sub t x y yt)(hx:ev env x=some (.int k i))(hy:ev env y=some (.int k j)):OD P o n env W own (.int k (k.wrap (i - j))) own :=
  .bin hop hx hy fun w=>by simp[eqGuard,binOp,Op.intArith]
theorem OD.addI (hop:o.op = .binOp .add t x y yt)(hx:ev env x=some (.int .i64 i))(hy:ev env y=some (.int .i64 j))(hb : -9223372036854775808≤i+j∧i+j≤9223372036854775807):OD P o n env W own (.int .i64 (i+j)) own:=by
  have h:=OD.add (P:=P) (n:=n) (W:=W) (own:=own) hop hx hy
  rwa [Aj hb.1 hb.2] at h
theorem OD.neq (hop:o.op = .binOp .neq t x y yt)(hx:ev env x=some (.int k i))(hy:ev env y=some (.int k j)):OD P o n env W own (.bool (i != j)) own :=
  .bin hop hx hy fun w=>by simp[eqGuard,binOp,Op.intCmp]
theorem OD.lss (hop:o.op = .binOp .lss t x y yt)(hx:ev env x=some (.int k i))(hy:ev env y=some (.int k j)):OD P o n env W own (.bool (decide (i<j))) own :=
  .bin hop hx hy fun w=>by simp[eqGuard,binOp,Op.intCmp]
theorem OD.gtr (hop:o.op = .binOp .gtr t x y yt)(hx:ev env x=some (.int k i))(hy:ev env y=some (.int k j)):OD P o n env W own (.bool (decide (j<i))) own :=
  .bin hop hx hy fun w=>by simp[eqGuard,binOp,Op.intCmp]
theorem OD.geq (hop:o.op = .binOp .geq t x y yt)(hx:ev env x=some (.int k i))(hy:ev env y=some (.int k j)):OD P o n env W own (.bool (decide (j≤i))) own :=
  .bin hop hx hy fun w=>by simp[eqGuard,binOp,Op.intCmp]
end
structure TI (P:Program)(t:TypeId)(agg:Bool)(sz:Nat)(zero:Value)(places:List (Nat × Nat)):Prop where
  ag:∀ w,(isAgg t).run P w = .ok agg w
  info:(P.info? t).map (fun i=>(i.zero,i.size))=some (some zero,sz)
  pl:agg=true→∃ fs,P.underlying t=some (.struct fs)∧∀ w,(fs.mapM (m:=Sem) fun f=>do pure (f.offset,← sizeOf f.type)).run P w = .ok places.toArray w
theorem TI.size {t:TypeId}{agg:Bool}{sz:Nat}{zero:Value}{pl:List (Nat × Nat)}(h:TI P t agg sz zero pl)(w:World):(sizeOf t).run P w = .ok sz w:=by
  have h1:=h.info
  cases e:P.info? t with
  | none=>simp[e] at h1
  | some i =>
    simp only[e,Option.map_some,Option.some.injEq,Prod.mk.injEq] at h1
    simp[sizeOf,typeInfo,e,h1.2]
theorem TI.zeroV {t:TypeId}{agg:Bool}{sz:Nat}{zero:Value}{pl:List (Nat × Nat)}(h:TI P t agg sz zero pl)(w:World):(zeroValue t).run P w = .ok zero w:=by
  have h1:=h.info
  cases e:P.info? t with
  | none=>simp[e] at h1
  | some i =>
    simp only[e,Option.map_some,Option.some.injEq,Prod.mk.injEq] at h1
    simp[zeroValue,typeInfo,e,h1.1]
theorem AN {v:Value}(h:v.oneCell'=true):v.cells = #[v]:=by cases v <;> simp_all [Value.oneCell',Value.cells]
theorem Ad {v:Value}{l:List Value}(h:v.oneCell'=true)(hl:l.all (·.oneCell')=true):(v::l).all (·.oneCell')=true:=by simp only[List.all_cons,h,hl,Bool.and_self]
section
variable {t:TypeId}{x:Operand}{g T off i sz:Nat}{cs:List Value}{v:Value}{pl:List (Nat × Nat)}{zero:Value}
theorem St.box {w:World}(h:St W w own)(hi:own[i]?=some (box g T cs)):w.heap[g]?=some (.cells cs.toArray T (0,0)):=by
  obtain⟨_,_,_,F,_,hH⟩:=h
  obtain⟨F1,_,h1⟩:=hH.get hi
  exact h1.2
theorem OG.alloc (hop:o.op = .alloc t){agg:Bool}(ti:TI P t agg sz zero pl){zs:List Value}(hz:zero.cells=zs.toArray) :
    OG P o n env W own fun v own'=>∃ g,v = .pointer (some ⟨g,0,none⟩)∧own'=box g t zs::own:=fun a w next Q hf hs hk=>by
  have hr:(execOp a.eval o).run P w = .ok (.value (.pointer (some ⟨w.heap.size,0,none⟩))) (w.alloc (.cells zs.toArray t)):=by
    simp only[execOp,hop]
    refine run_val ?_
    simp[Instr.alloc,ti.zeroV,newVar,newRow,hz]
  unfold Oper.wp
  rw[hr]
  exact hk _ _ _ ⟨_,rfl,rfl⟩ (hs.push ((Below.refl _ _).alloc (Nat.le_refl _) _) (box w.heap.size t zs) (fun k=>k=w.heap.size) ⟨fun _=>Iff.rfl,heap_alloc_new w _⟩ fun g hg=>by subst hg;simp)
theorem OG.box (hop:o.op = .box t x)(hx:ev env x=some v)(hz:v.cells=cs.toArray) :
    OG P o n env W own fun v own'=>∃ g,v = .pointer (some ⟨g,0,none⟩)∧own'=Proofs.YtbmnnbglipkidaaGreatDoor.D.box g t cs::own:=fun a w next Q hf hs hk=>by
  have hr:(execOp a.eval o).run P w = .ok (.value (.pointer (some ⟨w.heap.size,0,none⟩))) (w.alloc (.cells cs.toArray t)):=by
    simp only[execOp,hop,hf.ev hx]
    refine run_val ?_
    simp[Instr.box,newVar,newRow,hz]
  unfold Oper.wp
  rw[hr]
  exact hk _ _ _ ⟨_,rfl,rfl⟩ (hs.push ((Below.refl _ _).alloc (Nat.le_refl _) _) (Proofs.YtbmnnbglipkidaaGreatDoor.D.box w.heap.size t cs) (fun k=>k=w.heap.size) ⟨fun _=>Iff.rfl,heap_alloc_new w _⟩ fun g hg=>by subst hg;simp)
end
def Aa (v:Value)(sz k:Nat):Value :=
  match v with
  | .slice (some a) _ _ => .pointer (some (a.add (k*sz)))
  | _=>undef
section
variable {t:TypeId}{x y:Operand}{i:Nat}{e sz bytes m:Nat}{v z:Value}{cs:List Value}{xs:List Int}{k:Int}
theorem OD.len {c:Call}(hop:o.op = .call c)(hc:c={ callee := .builtin .len,args:=#[x],argTypes:=#[t] })(et:ET P t e sz bytes z)(hx:ev env x=some v)(hv:Ent own fun w=>Sl w v m sz cs):OD P o n env W own (.int .i64 m) own :=
  .of fun a w hf hs=>by
    obtain⟨_,ao,cap,rfl,_⟩:=hv W w hs
    subst hc
    simp[execOp,hop,resolve,invoke,builtin,hf.ev hx,Builtin.len_,run_underlying et.ht,goInt]
theorem Di {w:World}{m s:Nat}(h:Sl w v m s cs){k:Nat}(hk:k<m):∃ b off,(∀ j,Aa v s j = .pointer (some ⟨b,off+j*s,none⟩))∧∀ j,j<m*s→w.cell? ⟨b,off+j,none⟩=some (cs.getD j undef):=by
  obtain⟨_,ao,cap,rfl,_,_,_,h4⟩:=h
  obtain⟨b,off,rfl,_,hc⟩:=h4 (by omega)
  refine⟨b,off,fun j=>?_,hc⟩
  simp only[Aa]
  unfold Addr.add
  split <;> simp_all
theorem OD.indexAddr (hop:o.op = .indexAddr t x y)(et:ET P t e sz bytes z)(hx:ev env x=some v)(hne:Ent own fun w=>Sl w v m sz cs)(hy:ev env y=some (.int .i64 k))(hk:0≤k∧k<m) :
    OD P o n env W own (Aa v sz k.toNat) own :=
  .of fun a w hf hs=>by
    have hsl:=hne W w hs
    obtain⟨_,ao,cap,rfl,_,_,_,h4⟩:=hsl
    obtain⟨b,off,rfl,_,_⟩:=h4 (by omega)
    have hr:=run_index_slice et b off m cap k.toNat (by omega) w
    have hkk:((k.toNat:Nat):Int)=k:=by omega
    rw[hkk] at hr
    simp only[execOp,hop,hf.ev hx,hf.ev hy]
    refine run_val (hr.trans ?_)
    congr 1
    simp only[Aa,Addr.add]
    split <;> simp_all
theorem OD.loadElem {pl:List (Nat × Nat)}{zero u:Value}{j:Nat}(hop:o.op = .load e x)(ti:TI P e false 1 zero pl)(hx:ev env x=some (Aa v 1 j))(hv:Ent own fun w=>Sl w v m 1 cs)(hj:j<m)(hu:cs.getD j undef=u):OD P o n env W own u own :=
  .of fun a w hf hs=>by
    obtain⟨b,off,h1,h2⟩:=Di (hv W w hs) hj
    have hcell:=h2 j (by omega)
    simp only[execOp,hop,hf.ev hx,h1,Nat.mul_one]
    refine run_val ?_
    simp only[Instr.loadAt,Instr.sureAddr,Sem.run_bind,Sem.run_pure,Result.andThen_ok,loadVar,ti.ag]
    simp[run_load,hcell,← hu]
theorem OD.loadInt {pl:List (Nat × Nat)}{zero:Value}{j:Nat}(hop:o.op = .load e x)(ti:TI P e false 1 zero pl)(hx:ev env x=some (Aa v 1 j))(hv:Ent own fun w=>Ints w v xs)(hj:j<xs.length):OD P o n env W own (.int .i64 (xs.getD j 0)) own :=
  OD.loadElem hop ti hx hv hj (by simp[List.getD,hj])
theorem C0 {w w':World}(h:St W w own)(hO:Ch w' w.heap.size e sz v m cs)(hb:Below w.heap.size w w')(hd:w.drawn≤w'.drawn:=by exact Nat.le_refl _):St W w' (row e sz v m cs::own) :=
  h.push hb _ (fun k=>v.ownBlock=some k) ⟨hO.mono (Nat.zero_le _),fun _=>Iff.rfl⟩ (hd:=hd) fun g hg=>by
    rcases hO.blk with h | ⟨g',h,h1,h2⟩
    · simp[h] at hg
    · rw[h] at hg
      cases hg
      exact⟨h1,h2⟩
end
theorem ne_of_beq_false {a b:Int}(h:(a==b)=false):a≠b:=by simpa using h
theorem AA {a b:Int}(h:(a != b)=true):a≠b:=by simpa using h
theorem Al {a b:Int}(h:(a != b)=false):a=b:=by simpa using h
def evs (env:List (Nat × Value)):List Operand→Option (List Value)
  | []=>some []
  | x::xs=>match ev env x,evs env xs with
    | some v,some vs=>some (v::vs)
    | _,_=>none
theorem Fr.evs {a:Act}(h:Fr n env a):∀ {xs:List Operand} {vs:List Value},evs env xs=some vs→xs.map a.eval=vs
  | [],vs,e=>by
    simp only[Proofs.YtbmnnbglipkidaaGreatDoor.D.evs,Option.some.injEq] at e
    subst e
    rfl
  | x::xs,vs,e=>by
    simp only[Proofs.YtbmnnbglipkidaaGreatDoor.D.evs] at e
    split at e
    · rename_i v us h1 h2
      simp only[Option.some.injEq] at e
      subst e
      simp only[List.map_cons,h.ev h1,Fr.evs h h2]
    · simp at e
theorem OG.call (vs:List Value){f:FuncId}{x:Operand}{args:List Operand}{ty:Array TypeId}{first cap us:List Value}{K:Value→List Asn→Prop}(he:∀ us w,(callFunc f us).run P w = .ok (.enter f us) w)
    (hop:o.op = .call { callee := .value x,args:=args.toArray,argTypes:=ty }) (hx:ev env x=some (.func (.func f) first.toArray cap.toArray)) (ha:Proofs.YtbmnnbglipkidaaGreatDoor.D.evs env args=some us) (hv:first++us++cap=vs) (spec:Spec P f vs W own K):OG P o n env W own K:=fun a w next Q hf hs hk=>by
  have hr:(execOp a.eval o).run P w = .ok (.enter f vs.toArray) w:=by
    have:=hf.evs ha
    have e1:(first.toArray++args.toArray.map a.eval++cap.toArray)=vs.toArray:=by simp[this,hv]
    simp only[execOp,hop,resolve,hf.ev hx,Deferred.ofValue,Sem.run_bind,Sem.run_pure,Result.andThen_ok,invoke,e1,he]
  unfold Oper.wp
  rw[hr]
  exact(spec w hs).mono fun e w' ⟨v,own',h1,h2,h3⟩=>by
    subst h1
    exact hk v w' own' h2 h3
def E5 (places:List (Nat × Nat))(cells:List Value):List (Nat × List Value)→Option (List Value)
  | []=>some cells
  | (i,cs)::rest=>match places[i]? with
    | none=>none
    | some (off,size)=>if cs.length=size∧off+cs.length≤cells.length then E5 places (cells.take off++cs++cells.drop (off+cs.length)) rest else none
theorem Gv {α:Type}{cs us:List α}{k m:Nat}{u:α}(h:k<cs.length):(cs.set k u).take (k+1)++us++(cs.set k u).drop (k+1+m)=cs.take k++(u::us)++cs.drop (k+(m+1)):=by
  have a1:(cs.set k u).take (k+1)=cs.take k++[u]:=by
    rw[List.take_add_one,List.take_set_of_le (Nat.le_refl _)]
    simp[h]
  have a2:(cs.set k u).drop (k+1+m)=cs.drop (k+1+m):=List.drop_set_of_lt (by omega)
  rw[a1,a2]
  simp
  congr 1
  omega
theorem F4 (cs:List Value):∀ (us:List Value) (off k:Nat),off+k+us.length≤cs.length →
    ((us.zipIdx k).foldl (fun acc (x:Value × Nat)=>acc.setIfInBounds (off+x.2) x.1) cs.toArray)=(cs.take (off+k)++us++cs.drop (off+k+us.length)).toArray:=by
  intro us
  induction us generalizing cs with
  | nil =>
    intro off k h
    simp
  | cons u us ih =>
    intro off k h
    simp only[List.length_cons] at h
    simp only[List.zipIdx_cons,List.foldl_cons]
    have e1:cs.toArray.setIfInBounds (off+k) u=(cs.set (off+k) u).toArray:=by simp
    rw[e1,ih (cs.set (off+k) u) off (k+1) (by simp;omega)]
    congr 1
    have:=Gv (us:=us) (m:=us.length) (u:=u) (show off+k<cs.length by omega)
    rw[show off+(k+1)=off+k+1 by omega,this]
    rfl
def B8:List Value→List (List Value)→Prop
  | [],[]=>True
  | v::vs,c::cs=>v.cells=c.toArray∧B8 vs cs
  | _,_=>False
theorem DC (places:List (Nat × Nat)):∀ (idx:List Nat) (vs:List Value) (css:List (List Value)) (cells r:List Value),B8 vs css→idx.length=vs.length →
    E5 places cells (idx.zip css)=some r→Instr.fill (places.toArray[·]?) cells.toArray (idx.zip vs)=some r.toArray
  | [],[],[],cells,r,_,_,h=>by
    simp[E5] at h
    subst h
    rfl
  | i::idx,v::vs,c::css,cells,r,hc,hl,h=>by
    obtain⟨h1,h2⟩:=hc
    simp only[List.zip_cons_cons,E5] at h ⊢
    simp only[Instr.fill,List.getElem?_toArray]
    split at h
    · simp at h
    · rename_i off size hp
      simp only[hp]
      split at h
      · rename_i hcond
        obtain⟨hc1,hc2⟩:=hcond
        have e0 : ¬ (v.cells.size≠size∨cells.toArray.size<off+v.cells.size):=by
          rw[h1]
          simp
          omega
        have e1 : ¬ ((v.cells.size≠size || off+v.cells.size > cells.toArray.size)=true):=by
          simpa using e0
        rw[if_neg (by simpa using e0)]
        have e2:=F4 cells c off 0 (by omega)
        simp only[Nat.add_zero] at e2
        have e3:v.cells.zipIdx.foldl (fun cs (x:Value × Nat)=>cs.setIfInBounds (off+x.2) x.1) cells.toArray=(cells.take off++c++cells.drop (off+c.length)).toArray:=by
          rw[h1,← e2,← Array.foldl_toList]
          simp
        have:=DC places idx vs css _ r h2 (by simpa using hl) h
        rw[← e3] at this
        simpa using this
      · simp at h
  | [],_::_,_,_,_,_,hl,_=>by simp at hl
  | _::_,[],_,_,_,_,hl,_=>by simp at hl
  | [],[],_::_,_,_,hc,_,_=>by simp[B8] at hc
  | _::_,_::_,[],_,_,hc,_,_=>by simp[B8] at hc
theorem OD.build {t:TypeId}{idx:List Nat}{xs:List Operand}{vs:List Value}{cs:List (List Value)}{sz:Nat}{zero:Value}{pl:List (Nat × Nat)}{zs r:List Value}(hop:o.op = .build t (idx.zip xs).toArray)(ti:TI P t true sz zero pl)(hz:zero.cells=zs.toArray)
    (hi:idx.length=xs.length) (hx:Proofs.YtbmnnbglipkidaaGreatDoor.D.evs env xs=some vs) (hc:B8 vs cs) (hr:E5 pl zs (idx.zip cs)=some r):OD P o n env W own (.agg r.toArray) own :=
  .of fun a w hf _=>by
    obtain⟨fs,h1,h2⟩:=ti.pl rfl
    have e:=hf.evs hx
    have hl:idx.length=vs.length:=by rw[← e,List.length_map,hi]
    have e1:((idx.zip xs).toArray.map fun(p:Nat × Operand)=>(p.1,a.eval p.2)).toList=idx.zip vs:=by
      simp only[List.map_toArray]
      rw[← e]
      clear hop hx hc hr hl e hi
      induction idx generalizing xs with
      | nil=>simp
      | cons i idx ih =>
        cases xs with
        | nil=>simp
        | cons x xs =>
          have:=ih (xs:=xs)
          simp at this ⊢
          exact this
    have hfill:=DC pl idx vs cs zs r hc hl hr
    simp only[execOp,hop]
    refine run_val ?_
    simp only[Instr.build,Sem.run_bind,ti.zeroV,Result.andThen_ok,run_underlying h1,h2,e1,hz]
    rw[hfill]
    rfl
theorem OG.buildRow {t:TypeId}{e m:Nat}{bytes:Nat}{z:Value}{xs:List Operand}{us:List Value}(hop:o.op = .buildSlice t m ((List.range' 0 m).zip xs).toArray)(et:ET P t e 1 bytes z)(hl:xs.length=m)(hm:Nat.ble m 1000=true)(hx:Proofs.YtbmnnbglipkidaaGreatDoor.D.evs env xs=some us)(h1:us.all (·.oneCell')=true) :
    OG P o n env W own fun v own'=>Ab v∧own'=row e 1 v m us::own:=fun a w next Q hf hs hk=>by
  obtain⟨i,hi,hz0,hz1,hz2⟩:=info_parts et.hi
  have ev1:=hf.evs hx
  have hul:us.length=m:=by rw[← ev1,List.length_map,hl]
  have hm':m≤1000:=Nat.le_of_ble_eq_true hm
  have e1:(((List.range' 0 m).zip xs).toArray.map fun(p:Nat × Operand)=>(p.1,a.eval p.2)).toList=(List.range' 0 m).zip us:=by
    simp only[List.map_toArray]
    rw[← ev1,List.zip_map_right]
    simp[Prod.map]
  have key:∀ (us:List Value) (k:Nat) (cells:Array Value),us.all (·.oneCell')=true→k+us.length≤cells.size →
      Instr.fill (fun i=>some (i*1,1)) cells ((List.range' k us.length).zip us)=some (cells.toList.take k++us++cells.toList.drop (k+us.length)).toArray:=by
    intro us
    induction us with
    | nil=>intro k cells _ _;simp[Instr.fill]
    | cons u us ih =>
      intro k cells h1 hk
      simp only[List.all_cons,Bool.and_eq_true] at h1
      simp only[List.length_cons] at hk
      simp only[List.length_cons,List.range'_succ,List.zip_cons_cons,Instr.fill,AN h1.1]
      rw[if_neg (by simp;omega)]
      have e2:(#[u].zipIdx.foldl (fun cs (x:Value × Nat)=>cs.setIfInBounds (k*1+x.2) x.1) cells)=cells.setIfInBounds k u:=by
        simp
      have:=ih (k+1) (cells.setIfInBounds k u) h1.2 (by simp;omega)
      rw[e2,this]
      congr 2
      have hlt:k<cells.toList.length:=by simp;omega
      rw[Array.toList_setIfInBounds]
      exact Gv hlt
  have hsz:m*1≤16777216:=by omega
  have hrange:((List.range' 0 m).zip us)=(List.range' 0 us.length).zip us:=by rw[hul]
  have hr:∃ cs:Array Value,cs=us.toArray∧(execOp a.eval o).run P w = .ok (.value (.slice (some ⟨w.heap.size,0,none⟩) m m)) (w.alloc (.cells cs e)):=by
    refine⟨_,rfl,?_⟩
    simp only[execOp,hop]
    refine run_val ?_
    have hfill:=key us 0 ((Array.range (m*1)).map (z.cells[· % z.cells.size]!)) h1 (by simp[hul])
    have hfill':Instr.fill (fun i=>some (i*1,1)) ((Array.range (m*1)).map (z.cells[· % z.cells.size]!)) ((List.range' 0 m).zip us)=some us.toArray:=by
      rw[hrange,hfill]
      congr 1
      simp[hul]
    simp only[Instr.buildSlice,Sem.run_bind,run_underlying et.ht,Result.andThen_ok,e1]
    have hso:(sizeOf e).run P w = .ok 1 w:=by simp[sizeOf,typeInfo,hi,hz1]
    simp only[hso,Result.andThen_ok]
    rw[if_neg (by omega)]
    by_cases hm0:m=0
    · have hus:us = []:=List.eq_nil_of_length_eq_zero (by omega)
      subst hm0 hus
      have e0:(Array.map (fun _:Nat=>(default:Value)) (Array.range 0)) = #[]:=by simp[Array.range]
      simp[Instr.fill,newRow,e0]
    · simp only[Nat.mul_one] at hfill' ⊢
      simp[if_neg hm0,zeroValue,typeInfo,hi,hz0,newRow,hfill']
  obtain⟨cs,rfl,hr⟩:=hr
  unfold Oper.wp
  rw[hr]
  refine hk _ _ _ ⟨⟨_,_,_,rfl⟩,rfl⟩ (C0 hs (.inr ⟨by simp[hul],w.heap.size,m,us.toArray,rfl,Nat.le_refl _,heap_alloc_new w _,Nat.le_refl _,by simp[maxLen];omega,by simp[hul],?_⟩) ((Below.refl _ _).alloc (Nat.le_refl _) _))
  rw[List.take_of_length_le (by simp[hul])]
theorem OG.buildInts {t:TypeId}{e m:Nat}{xs:List Operand}{us:List Value}{is:List Int}(hop:o.op = .buildSlice t m ((List.range' 0 m).zip xs).toArray)(et:ET P t e 1 8 (.int .i64 0))(hl:xs.length=m)(hm:Nat.ble m 1000=true)(hx:Proofs.YtbmnnbglipkidaaGreatDoor.D.evs env xs=some us)(hu:us=is.map (Value.int .i64))(hi:is.length=m) :
    OG P o n env W own fun v own'=>Ab v∧own'=ints e v is::own:=by
  subst hu
  have h:=OG.buildRow (P:=P) (n:=n) (W:=W) (own:=own) hop et hl hm hx (by simp[Value.oneCell'])
  rw[← hi] at h
  exact h
def Hk (a:Act):ResultVar→Sem Value
  | .tmp t=>pure (a.tmps.getD t undef)
  | .cell c t=>do loadVar t (← asAddr (a.tmps.getD c undef))
theorem Ki (fn:Func)(a:Act):results fn a.tmps=(do let vs ← fn.results.mapM (Hk a);pure (if h:vs.size=1 then vs[0] else .tuple vs)):=by
  unfold results
  congr 1
def RV (P:Program)(n:Nat)(env:List (Nat × Value))(W:World)(own:List Asn)(r:ResultVar)(v:Value):Prop :=
  ∀ (a:Act) w,Fr n env a→St W w own→(Hk a r).run P w = .ok v w
def RVs (P:Program)(n:Nat)(env:List (Nat × Value))(W:World)(own:List Asn):List ResultVar→List Value→Prop
  | [],[]=>True
  | r::rs,v::vs=>RV P n env W own r v∧RVs P n env W own rs vs
  | _,_=>False
theorem RVs.nil:RVs P n env W own [] []:=trivial
def VB:List Value→Value
  | [v]=>v
  | vs => .tuple vs.toArray
def frozen (W0:World):Asn where
  p F w:=(∀ g,F g↔g<W0.heap.size)∧∀ g,g<W0.heap.size→w.heap[g]?=W0.heap[g]?
  loc h hw:=⟨h.1,fun g hg=>(hw g ((h.1 g).2 hg)).trans (h.2 g hg)⟩
theorem A4 {W W0 w:World}(h:St W w [frozen W0]):W0.heap.size≤w.heap.size∧∀ g,g<W0.heap.size→w.heap[g]?=W0.heap[g]?:=by
  obtain⟨_,_,_,F,hF,F1,F2,e1,_,⟨g1,g2⟩,_⟩:=h
  refine⟨?_,g2⟩
  rcases Nat.eq_zero_or_pos W0.heap.size with h0 | h0
  · omega
  · have:=hF (W0.heap.size - 1) ((e1 _).2 (.inl ((g1 _).2 (by omega))))
    omega
theorem frozen_below {W0 w:World}(h:St W0 w [frozen W0]):Below W0.heap.size W0 w:=⟨h.os,h.tape,h.output.1,(A4 h).1,(A4 h).2⟩
theorem Pt {W0:World}{v:Value}{n sz:Nat}{cs:List Value}(h:Sl W0 v n sz cs):Ent [frozen W0] fun w=>Sl w v n sz cs:=fun _ _ hs =>
  h.same (A4 hs).1 fun _ k _ hk=>(A4 hs).2 k hk
theorem ent_ints {W0:World}{v:Value}{xs:List Int}(h:Ints W0 v xs):Ent [frozen W0] fun w=>Ints w v xs:=Pt h
theorem frozen_self (w:World):St w w [frozen w] :=
  ⟨rfl,rfl,⟨rfl,Nat.le_refl _⟩,fun g=>g<w.heap.size,fun _ h=>h,fun g=>g<w.heap.size,fun _=>False,fun g=>by simp,fun _ _ h=>h,⟨fun _=>Iff.rfl,fun _ _=>rfl⟩,fun _ h=>h⟩
end
end Go.Proofs.YtbmnnbglipkidaaGreatDoor.D
