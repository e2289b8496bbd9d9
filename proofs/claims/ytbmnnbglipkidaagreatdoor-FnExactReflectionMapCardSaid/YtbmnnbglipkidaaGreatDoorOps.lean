/-
  The laws of single operations in the words of XSep: what each yields, and what is owned behind it.
-/
import Derived.Test.YtbmnnbglipkidaaGreatDoorSep
namespace Go.Proofs.YtbmnnbglipkidaaGreatDoor
set_option linter.unusedVariables false
set_option linter.unusedSimpArgs false
open Go.RowKit
section
variable {P:Program}{n:Nat}{env:List (Nat × Value)}{W:World}{own:List Asn}{o:Oper}
theorem run_val {s:Sem Value}{v:Value}{w w':World}(h:s.run P w = .ok v w'):(do pure (Next.value (← s)):Sem Next).run P w = .ok (.value v) w':=by
  simp[h]
theorem OD.of {v:Value}(h:∀ a w,Fr n env a→St W w own→(execOp a.eval o).run P w = .ok (.value v) w):OD P o n env W own v own:=fun a w next Q hf hs hk=>by
  unfold Oper.wp
  rw[h a w hf hs]
  exact hk _ _ _ ⟨rfl,rfl⟩ hs
theorem OD.move {x:Operand}{v:Value}(hop:o.op = .move x)(hx:ev env x=some v):OD P o n env W own v own := .of fun a w hf _=>by simp[execOp,hop,hf.ev hx]
theorem OD.assign {x:Operand}{v:Value}(hop:o.op = .assign x)(hx:ev env x=some v):OD P o n env W own v own := .of fun a w hf _=>by simp[execOp,hop,hf.ev hx]
theorem OD.pickT {c x y:Operand}{u:Value}(hop:o.op = .pick c x y)(hc:ev env c=some (.bool true))(hx:ev env x=some u):OD P o n env W own u own :=
  .of fun a w hf _=>by simp[execOp,hop,hf.ev hx,hf.ev hc,asBool]
theorem OD.pickF {c x y:Operand}{u:Value}(hop:o.op = .pick c x y)(hc:ev env c=some (.bool false))(hy:ev env y=some u):OD P o n env W own u own :=
  .of fun a w hf _=>by simp[execOp,hop,hf.ev hy,hf.ev hc,asBool]
theorem OD.extract {x:Operand}{i:Nat}{vs:Array Value}{v:Value}(hop:o.op = .extract x i)(hx:ev env x=some (.tuple vs))(hi:vs[i]?=some v):OD P o n env W own v own :=
  .of fun a w hf _=>by simp[execOp,hop,hf.ev hx,Instr.extract,hi]
theorem OD.makeFunc {fn:Fn}{first captured:List Operand}{us vs:List Value}(hop:o.op = .makeFunc fn first.toArray captured.toArray)(hf':first.map (ev env)=us.map some)(hc:captured.map (ev env)=vs.map some) :
    OD P o n env W own (.func fn us.toArray vs.toArray) own :=
  .of fun a w hf _=>by
    have key:∀ (l:List Operand) (us:List Value),l.map (ev env)=us.map some→l.map a.eval=us:=by
      intro l
      induction l with
      | nil=>intro us h;cases us <;> simp_all
      | cons x l ih =>
        intro us h
        cases us with
        | nil=>simp at h
        | cons u us =>
          simp only[List.map_cons,List.cons.injEq] at h ⊢
          exact⟨hf.ev h.1,ih us h.2⟩
    simp[execOp,hop,Instr.makeFunc,key _ _ hf',key _ _ hc]
theorem OD.bin {op:BinOp}{t yt:TypeId}{x y:Operand}{u u' v:Value}(hop:o.op = .binOp op t x y yt)(hx:ev env x=some u)(hy:ev env y=some u')
    (hr:∀ w,(do eqGuard op t x y u u';binOp op t u u':Sem Value).run P w = .ok v w):OD P o n env W own v own := .of fun a w hf _=>by
  simp only[execOp,hop,hf.ev hx,hf.ev hy]
  exact run_val (hr w)
structure BT (P:Program)(t:TypeId):Prop where
  eq:∀ a b w,(binOp .eql t (.bool a) (.bool b)).run P w = .ok (.bool (a==b)) w
  ne:∀ a b w,(binOp .neq t (.bool a) (.bool b)).run P w = .ok (.bool (a != b)) w
theorem Aj {x:Int}(h1 : -9223372036854775808≤x)(h2:x≤9223372036854775807):IntKind.i64.wrap x=x:=by
  rw[IntKind.wrap_i64]
  omega
section
variable {t yt:TypeId}{x y:Operand}{k:IntKind}{i j:Int}
theorem OD.add (hop:o.op = .binOp .add t x y yt)(hx:ev env x=some (.int k i))(hy:ev env y=some (.int k j)):OD P o n env W own (.int k (k.wrap (i+j))) own :=
  .bin hop hx hy fun w=>by simp[eqGuard,binOp,Op.intArith]
theorem OD.sub (hop:o.op = .binOp .sub t x y yt)(hx:ev env x=some (.int k i))(hy:ev env y=some (.int k j)):OD P o n env W own (.int k (k.wrap (i - j))) own :=
  .bin hop hx hy fun w=>by simp[eqGuard,binOp,Op.intArith]
theorem OD.mul (hop:o.op = .binOp .mul t x y yt)(hx:ev env x=some (.int k i))(hy:ev env y=some (.int k j)):OD P o n env W own (.int k (k.wrap (i*j))) own :=
  .bin hop hx hy fun w=>by simp[eqGuard,binOp,Op.intArith]
theorem OD.addI (hop:o.op = .binOp .add t x y yt)(hx:ev env x=some (.int .i64 i))(hy:ev env y=some (.int .i64 j))(hb : -9223372036854775808≤i+j∧i+j≤9223372036854775807):OD P o n env W own (.int .i64 (i+j)) own:=by
  have h:=OD.add (P:=P) (n:=n) (W:=W) (own:=own) hop hx hy
  rwa [Aj hb.1 hb.2] at h
theorem OD.subI (hop:o.op = .binOp .sub t x y yt)(hx:ev env x=some (.int .i64 i))(hy:ev env y=some (.int .i64 j))(hb : -9223372036854775808≤i - j∧i - j≤9223372036854775807):OD P o n env W own (.int .i64 (i - j)) own:=by
  have h:=OD.sub (P:=P) (n:=n) (W:=W) (own:=own) hop hx hy
  rwa [Aj hb.1 hb.2] at h
theorem OD.mulI (hop:o.op = .binOp .mul t x y yt)(hx:ev env x=some (.int .i64 i))(hy:ev env y=some (.int .i64 j))(hb : -9223372036854775808≤i*j∧i*j≤9223372036854775807):OD P o n env W own (.int .i64 (i*j)) own:=by
  have h:=OD.mul (P:=P) (n:=n) (W:=W) (own:=own) hop hx hy
  rwa [Aj hb.1 hb.2] at h
theorem OD.quo (hop:o.op = .binOp .quo t x y yt)(hx:ev env x=some (.int k i))(hy:ev env y=some (.int k j))(hj:j≠0):OD P o n env W own (.int k (k.wrap (i.tdiv j))) own :=
  .bin hop hx hy fun w=>by simp[eqGuard,binOp,Op.intDiv,hj]
theorem OD.rem (hop:o.op = .binOp .rem t x y yt)(hx:ev env x=some (.int k i))(hy:ev env y=some (.int k j))(hj:j≠0):OD P o n env W own (.int k (i.tmod j)) own :=
  .bin hop hx hy fun w=>by simp[eqGuard,binOp,Op.intDiv,hj]
theorem OD.eql (hop:o.op = .binOp .eql t x y yt)(hx:ev env x=some (.int k i))(hy:ev env y=some (.int k j)):OD P o n env W own (.bool (i==j)) own :=
  .bin hop hx hy fun w=>by simp[eqGuard,binOp,Op.intCmp]
theorem OD.neq (hop:o.op = .binOp .neq t x y yt)(hx:ev env x=some (.int k i))(hy:ev env y=some (.int k j)):OD P o n env W own (.bool (i != j)) own :=
  .bin hop hx hy fun w=>by simp[eqGuard,binOp,Op.intCmp]
theorem OD.lss (hop:o.op = .binOp .lss t x y yt)(hx:ev env x=some (.int k i))(hy:ev env y=some (.int k j)):OD P o n env W own (.bool (decide (i<j))) own :=
  .bin hop hx hy fun w=>by simp[eqGuard,binOp,Op.intCmp]
theorem OD.leq (hop:o.op = .binOp .leq t x y yt)(hx:ev env x=some (.int k i))(hy:ev env y=some (.int k j)):OD P o n env W own (.bool (decide (i≤j))) own :=
  .bin hop hx hy fun w=>by simp[eqGuard,binOp,Op.intCmp]
theorem OD.gtr (hop:o.op = .binOp .gtr t x y yt)(hx:ev env x=some (.int k i))(hy:ev env y=some (.int k j)):OD P o n env W own (.bool (decide (j<i))) own :=
  .bin hop hx hy fun w=>by simp[eqGuard,binOp,Op.intCmp]
theorem OD.geq (hop:o.op = .binOp .geq t x y yt)(hx:ev env x=some (.int k i))(hy:ev env y=some (.int k j)):OD P o n env W own (.bool (decide (j≤i))) own :=
  .bin hop hx hy fun w=>by simp[eqGuard,binOp,Op.intCmp]
theorem OD.neqB {a b:Bool}(ht:BT P t)(hop:o.op = .binOp .neq t x y yt)(hx:ev env x=some (.bool a))(hy:ev env y=some (.bool b)):OD P o n env W own (.bool (a != b)) own :=
  .bin hop hx hy fun w=>by simp only[eqGuard];simp[ht.ne a b w]
theorem OD.neg (hop:o.op = .unOp .neg t x)(hx:ev env x=some (.int k i)):OD P o n env W own (.int k (k.wrap (0 - i))) own :=
  .of fun a w hf _=>by simp[execOp,hop,hf.ev hx,Op.unary,Op.intArith]
theorem OD.not {b:Bool}(hop:o.op = .unOp .not t x)(hx:ev env x=some (.bool b)):OD P o n env W own (.bool (!b)) own :=
  .of fun a w hf _=>by simp[execOp,hop,hf.ev hx,Op.unary]
end
structure TI (P:Program)(t:TypeId)(agg:Bool)(sz:Nat)(zero:Value)(places:List (Nat × Nat)):Prop where
  ag:∀ w,(isAgg t).run P w = .ok agg w
  info:(P.info? t).map (fun i=>(i.zero,i.size))=some (some zero,sz)
  pl:agg=true→∃ fs,P.underlying t=some (.struct fs)∧∀ w,(fs.mapM (m:=Sem) fun f=>do pure (f.offset,← sizeOf f.type)).run P w = .ok places.toArray w
theorem TI.size {t:TypeId}{agg:Bool}{sz:Nat}{zero:Value}{pl:List (Nat × Nat)}(h:TI P t agg sz zero pl)(w:World):(sizeOf t).run P w = .ok sz w:=by
  have h1:=h.info
  cases e:P.info? t with
  | none=>simp[e] at h1
  | some i =>
    simp only[e,Option.map_some,Option.some.injEq,Prod.mk.injEq] at h1
    simp[sizeOf,typeInfo,e,h1.2]
theorem TI.zeroV {t:TypeId}{agg:Bool}{sz:Nat}{zero:Value}{pl:List (Nat × Nat)}(h:TI P t agg sz zero pl)(w:World):(zeroValue t).run P w = .ok zero w:=by
  have h1:=h.info
  cases e:P.info? t with
  | none=>simp[e] at h1
  | some i =>
    simp only[e,Option.map_some,Option.some.injEq,Prod.mk.injEq] at h1
    simp[zeroValue,typeInfo,e,h1.1]
theorem AN {v:Value}(h:v.oneCell'=true):v.cells = #[v]:=by cases v <;> simp_all [Value.oneCell',Value.cells]
theorem Ad {v:Value}{l:List Value}(h:v.oneCell'=true)(hl:l.all (·.oneCell')=true):(v::l).all (·.oneCell')=true:=by simp only[List.all_cons,h,hl,Bool.and_self]
section
variable {t:TypeId}{x:Operand}{g T off i sz:Nat}{cs:List Value}{v:Value}{pl:List (Nat × Nat)}{zero:Value}
theorem St.box {w:World}(h:St W w own)(hi:own[i]?=some (box g T cs)):w.heap[g]?=some (.cells cs.toArray T (0,0)):=by
  obtain⟨_,_,_,F,_,hH⟩:=h
  obtain⟨F1,_,h1⟩:=hH.get hi
  exact h1.2
theorem OD.load (hop:o.op = .load t x)(ti:TI P t false sz zero pl)(hx:ev env x=some (.pointer (some ⟨g,off,none⟩)))(hi:own[i]?=some (box g T cs))(hc:cs[off]?=some v):OD P o n env W own v own :=
  .of fun a w hf hs=>by
    have hb:=hs.box hi
    have hcell:w.cell? ⟨g,off,none⟩=some v:=by simp[World.cell?,hb,hc]
    simp only[execOp,hop,hf.ev hx]
    refine run_val ?_
    simp only[Instr.loadAt,Instr.sureAddr,Sem.run_bind,Sem.run_pure,Result.andThen_ok,loadVar,ti.ag]
    simp[run_load,hcell]
theorem OD.loadAgg (hop:o.op = .load t x)(ti:TI P t true sz zero pl)(hx:ev env x=some (.pointer (some ⟨g,off,none⟩)))(hi:own[i]?=some (box g T cs)){us:List Value}(hu:(cs.drop off).take sz=us)(hl:us.length=sz) :
    OD P o n env W own (.agg us.toArray) own :=
  .of fun a w hf hs=>by
    have hb:=hs.box hi
    have hlo:(loadCells ⟨g,off,none⟩ us.length).run P w = .ok us.toArray w:=by
      refine run_loadCells_list w _ us fun j u hj=>?_
      rw[Addr.add_lit]
      have hjl:j<us.length:=(List.getElem?_eq_some_iff.1 hj).1
      rw[← hu,List.getElem?_take_of_lt (by omega),List.getElem?_drop] at hj
      simp[World.cell?,hb,hj]
    rw[hl] at hlo
    simp only[execOp,hop,hf.ev hx]
    refine run_val ?_
    simp only[Instr.loadAt,Instr.sureAddr,Sem.run_bind,Sem.run_pure,Result.andThen_ok,loadVar,ti.ag,ti.size,hlo,if_true]
theorem OG.alloc (hop:o.op = .alloc t){agg:Bool}(ti:TI P t agg sz zero pl){zs:List Value}(hz:zero.cells=zs.toArray) :
    OG P o n env W own fun v own'=>∃ g,v = .pointer (some ⟨g,0,none⟩)∧own'=box g t zs::own:=fun a w next Q hf hs hk=>by
  have hr:(execOp a.eval o).run P w = .ok (.value (.pointer (some ⟨w.heap.size,0,none⟩))) (w.alloc (.cells zs.toArray t)):=by
    simp only[execOp,hop]
    refine run_val ?_
    simp[Instr.alloc,ti.zeroV,newVar,newRow,hz]
  unfold Oper.wp
  rw[hr]
  exact hk _ _ _ ⟨_,rfl,rfl⟩ (hs.push ((Below.refl _ _).alloc (Nat.le_refl _) _) (box w.heap.size t zs) (fun k=>k=w.heap.size) ⟨fun _=>Iff.rfl,heap_alloc_new w _⟩ fun g hg=>by subst hg;simp)
theorem OG.box (hop:o.op = .box t x)(hx:ev env x=some v)(hz:v.cells=cs.toArray) :
    OG P o n env W own fun v own'=>∃ g,v = .pointer (some ⟨g,0,none⟩)∧own'=Proofs.YtbmnnbglipkidaaGreatDoor.box g t cs::own:=fun a w next Q hf hs hk=>by
  have hr:(execOp a.eval o).run P w = .ok (.value (.pointer (some ⟨w.heap.size,0,none⟩))) (w.alloc (.cells cs.toArray t)):=by
    simp only[execOp,hop,hf.ev hx]
    refine run_val ?_
    simp[Instr.box,newVar,newRow,hz]
  unfold Oper.wp
  rw[hr]
  exact hk _ _ _ ⟨_,rfl,rfl⟩ (hs.push ((Below.refl _ _).alloc (Nat.le_refl _) _) (Proofs.YtbmnnbglipkidaaGreatDoor.box w.heap.size t cs) (fun k=>k=w.heap.size) ⟨fun _=>Iff.rfl,heap_alloc_new w _⟩ fun g hg=>by subst hg;simp)
theorem OD.store {y:Operand}{agg:Bool}(hop:o.op = .store t x y)(ti:TI P t agg sz zero pl)(hx:ev env x=some (.pointer (some ⟨g,off,none⟩)))(hy:ev env y=some v){us:List Value}(hv:v.cells=us.toArray)(hl:us.length=sz)(h1:us.all (·.oneCell')=true)
    (hi:own[i]?=some (Proofs.YtbmnnbglipkidaaGreatDoor.box g T cs)) (hle:Nat.ble (off+sz) cs.length=true) :
    OD P o n env W own undef (own.set i (Proofs.YtbmnnbglipkidaaGreatDoor.box g T (cs.take off++us++cs.drop (off+sz)))):=fun a w next Q hf hs hk=>by
  obtain⟨F1,⟨f0,f1⟩,f2,f3⟩:=hs.upd hi
  have hle':off+sz≤cs.length:=Nat.le_of_ble_eq_true hle
  have hst:=run_storeCells_at P g off T us 0 cs.toArray w f1 (by simp;omega) fun v hv=>by simpa using List.all_eq_true.1 h1 v hv
  have hr:(execOp a.eval o).run P w = .ok .skip (w.setRow g (cs.take off++us++cs.drop (off+sz)).toArray):=by
    simp only[Nat.add_zero,hl] at hst
    simp[execOp,hop,hf.ev hx,hf.ev hy,Instr.storeAt,Instr.sureAddr,storeVar,ti.size,hv,hl,hst]
  unfold Oper.wp
  rw[hr]
  refine hk _ _ _ ⟨rfl,rfl⟩ (f3 _ _ (fun k=>k=g) rfl rfl rfl (by simp) ⟨fun _=>Iff.rfl,setRow_heap w g _ _ T _ f1⟩ (fun k _ hk=>setRow_other w g k _ fun e=>hk ((f0 k).2 e)) fun k hk=>?_)
  subst hk
  exact⟨.inl ((f0 _).2 rfl),by have:=f2 _ ((f0 _).2 rfl);simpa using this⟩
theorem OD.fieldAddr {s f d:Nat}{ao:Nat}(hop:o.op = .fieldAddr s x f)(hx:ev env x=some (.pointer (some ⟨g,ao,none⟩)))(hfd:∀ (b k:Nat) w,(Instr.fieldAt s (.pointer (some ⟨b,k,none⟩)) f).run P w = .ok (.pointer (some ⟨b,k+d,none⟩)) w) :
    OD P o n env W own (.pointer (some ⟨g,ao+d,none⟩)) own :=
  .of fun a w hf _=>by
    simp only[execOp,hop,hf.ev hx]
    exact run_val (hfd _ _ _)
end
def Aa (v:Value)(sz k:Nat):Value :=
  match v with
  | .slice (some a) _ _ => .pointer (some (a.add (k*sz)))
  | _=>undef
section
variable {t:TypeId}{x y:Operand}{i:Nat}{e sz bytes m:Nat}{v z:Value}{cs:List Value}{xs:List Int}{k:Int}
theorem OD.len {c:Call}(hop:o.op = .call c)(hc:c={ callee := .builtin .len,args:=#[x],argTypes:=#[t] })(et:ET P t e sz bytes z)(hx:ev env x=some v)(hv:Ent own fun w=>Sl w v m sz cs):OD P o n env W own (.int .i64 m) own :=
  .of fun a w hf hs=>by
    obtain⟨_,ao,cap,rfl,_⟩:=hv W w hs
    subst hc
    simp[execOp,hop,resolve,invoke,builtin,hf.ev hx,Builtin.len_,run_underlying et.ht,goInt]
theorem Di {w:World}{m s:Nat}(h:Sl w v m s cs){k:Nat}(hk:k<m):∃ b off,(∀ j,Aa v s j = .pointer (some ⟨b,off+j*s,none⟩))∧∀ j,j<m*s→w.cell? ⟨b,off+j,none⟩=some (cs.getD j undef):=by
  obtain⟨_,ao,cap,rfl,_,_,_,h4⟩:=h
  obtain⟨b,off,rfl,_,hc⟩:=h4 (by omega)
  refine⟨b,off,fun j=>?_,hc⟩
  simp only[Aa]
  unfold Addr.add
  split <;> simp_all
theorem OD.indexAddr (hop:o.op = .indexAddr t x y)(et:ET P t e sz bytes z)(hx:ev env x=some v)(hne:Ent own fun w=>Sl w v m sz cs)(hy:ev env y=some (.int .i64 k))(hk:0≤k∧k<m) :
    OD P o n env W own (Aa v sz k.toNat) own :=
  .of fun a w hf hs=>by
    have hsl:=hne W w hs
    obtain⟨_,ao,cap,rfl,_,_,_,h4⟩:=hsl
    obtain⟨b,off,rfl,_,_⟩:=h4 (by omega)
    have hr:=run_index_slice et b off m cap k.toNat (by omega) w
    have hkk:((k.toNat:Nat):Int)=k:=by omega
    rw[hkk] at hr
    simp only[execOp,hop,hf.ev hx,hf.ev hy]
    refine run_val (hr.trans ?_)
    congr 1
    simp only[Aa,Addr.add]
    split <;> simp_all
theorem OD.loadElem {pl:List (Nat × Nat)}{zero u:Value}{j:Nat}(hop:o.op = .load e x)(ti:TI P e false 1 zero pl)(hx:ev env x=some (Aa v 1 j))(hv:Ent own fun w=>Sl w v m 1 cs)(hj:j<m)(hu:cs.getD j undef=u):OD P o n env W own u own :=
  .of fun a w hf hs=>by
    obtain⟨b,off,h1,h2⟩:=Di (hv W w hs) hj
    have hcell:=h2 j (by omega)
    simp only[execOp,hop,hf.ev hx,h1,Nat.mul_one]
    refine run_val ?_
    simp only[Instr.loadAt,Instr.sureAddr,Sem.run_bind,Sem.run_pure,Result.andThen_ok,loadVar,ti.ag]
    simp[run_load,hcell,← hu]
theorem OD.loadInt {pl:List (Nat × Nat)}{zero:Value}{j:Nat}(hop:o.op = .load e x)(ti:TI P e false 1 zero pl)(hx:ev env x=some (Aa v 1 j))(hv:Ent own fun w=>Ints w v xs)(hj:j<xs.length):OD P o n env W own (.int .i64 (xs.getD j 0)) own :=
  OD.loadElem hop ti hx hv hj (by simp[List.getD,hj])
theorem OD.storeElem {pl:List (Nat × Nat)}{zero u:Value}{j:Nat}(hop:o.op = .store e x y)(ti:TI P e false 1 zero pl)(hx:ev env x=some (Aa v 1 j))(hy:ev env y=some u)(hu:u.oneCell'=true)
    (hi:own[i]?=some (row e 1 v m cs)) (hj:j<m):OD P o n env W own undef (own.set i (row e 1 v m (cs.set j u))):=fun a w next Q hf hs hk=>by
  obtain⟨F1,⟨f0,f1⟩,f2,f3⟩:=hs.upd hi
  rcases f0 with⟨h,_⟩ | ⟨h0,g,cap,cur,rfl,hb,hg,hnc,hm,hsz,ht⟩
  · omega
  · have hrow:w.ownsRow 0 e 1 (.slice (some ⟨g,0,none⟩) m cap) m cs:=⟨h0,.inr ⟨g,cap,cur,rfl,hb,hg,hnc,hm,hsz,ht⟩⟩
    have hp:Aa (.slice (some ⟨g,0,none⟩) m cap) 1 j = .pointer (some ⟨g,j,none⟩):=by
      simp only[Aa,Addr.add]
      split <;> simp_all
    have hcell:=hrow.cellAt j (by omega)
    have hcs:cs[j]?=some (cs.getD j undef):=by simp[List.getD,List.getElem?_eq_getElem (show j<cs.length by omega)]
    have hfr:=hrow.frozenAt j
    have hr:(execOp a.eval o).run P w = .ok .skip (w.setCell ⟨g,j,none⟩ u):=by
      have hst:(Go.store (⟨g,j,none⟩:Addr) u).run P w = .ok () (w.setCell ⟨g,j,none⟩ u):=by
        rw[run_store P w _ u _ hu,hcell,hcs]
        simp[hfr]
      have hadd:((⟨g,j,none⟩:Addr).add 0)=⟨g,j,none⟩:=rfl
      simp[execOp,hop,hf.ev hx,hf.ev hy,hp,Instr.storeAt,Instr.sureAddr,storeVar,ti.size,AN hu,storeCells,hadd,hst]
    unfold Oper.wp
    rw[hr]
    have hst2:=hrow.stored j u
    refine hk _ _ _ ⟨rfl,rfl⟩ (f3 _ _ (fun k=>k=g) rfl rfl rfl hst2.2.size ⟨.of_row hst2.1,fun k=>by simp[Value.ownBlock,eq_comm]⟩ (fun k hk1 hk2=>hst2.2.block k hk1 fun e=>hk2 ((f1 k).2 ?_)) fun k hk=>?_)
    · exact e.symm
    · subst hk
      have hF:=(f1 k).2 rfl
      exact⟨.inl hF,Nat.lt_of_lt_of_le (f2 _ hF) hst2.2.size⟩
theorem OD.storeInt {pl:List (Nat × Nat)}{zero:Value}{j:Nat}{q:Int}(hop:o.op = .store e x y)(ti:TI P e false 1 zero pl)(hx:ev env x=some (Aa v 1 j))(hy:ev env y=some (.int .i64 q))
    (hi:own[i]?=some (ints e v xs)) (hj:j<xs.length):OD P o n env W own undef (own.set i (ints e v (xs.set j q))):=by
  have h:=OD.storeElem (P:=P) (n:=n) (W:=W) hop ti hx hy rfl hi hj
  have e1:(xs.map (Value.int .i64)).set j (.int .i64 q)=(xs.set j q).map (Value.int .i64):=by simp[List.map_set]
  rw[e1] at h
  simpa [ints] using h
theorem C0 {w w':World}(h:St W w own)(hO:Ch w' w.heap.size e sz v m cs)(hb:Below w.heap.size w w'):St W w' (row e sz v m cs::own) :=
  h.push hb _ (fun k=>v.ownBlock=some k) ⟨hO.mono (Nat.zero_le _),fun _=>Iff.rfl⟩ fun g hg=>by
    rcases hO.blk with h | ⟨g',h,h1,h2⟩
    · simp[h] at hg
    · rw[h] at hg
      cases hg
      exact⟨h1,h2⟩
theorem OG.make {c:Operand}(hop:o.op = .makeSlice t x c)(et:ET P t e sz bytes z){q:Int}(hx:ev env x=some (.int .i64 q))(hc:ev env c=some (.int .i64 q))(hq:0≤q)(hb:bytes*q.toNat≤281474976710656)(hm:q.toNat≤maxLen) :
    OG P o n env W own fun v own'=>Ab v∧own'=row e sz v q.toNat (madeCells z.cells (q.toNat*sz)).toList::own:=fun a w next Q hf hs hk=>by
  obtain⟨i,hi,hz0,hz1,hz2⟩:=info_parts et.hi
  obtain⟨w',hr,h1,h2⟩:=run_make_full (P:=P) w w.heap.size t e i z sz et.ht hi hz0 hz1 .i64 .i64 q.toNat (by rw[hz2];exact hb) hm (Nat.le_refl _)
  have hqq:((q.toNat:Nat):Int)=q:=by omega
  rw[hqq] at hr
  have hr':(execOp a.eval o).run P w = .ok (.value (.slice (some ⟨w.heap.size,0,none⟩) q.toNat q.toNat)) w':=by
    simp only[execOp,hop,hf.ev hx,hf.ev hc]
    exact run_val hr
  unfold Oper.wp
  rw[hr']
  exact hk _ _ _ ⟨⟨_,_,_,rfl⟩,rfl⟩ (C0 hs (.of_row h1) ((Below.refl _ _).grown h2 (Nat.le_refl _) fun _ h=>by cases h))
theorem OG.makeInts {c:Operand}(hop:o.op = .makeSlice t x c)(et:ET P t e 1 8 (.int .i64 0)){q:Int}(hx:ev env x=some (.int .i64 q))(hc:ev env c=some (.int .i64 q))(hq:0≤q∧q≤1099511627776) :
    OG P o n env W own fun v own'=>Ab v∧own'=ints e v (List.replicate q.toNat 0)::own:=fun a w next Q hf hs hk=>by
  refine OG.make (P:=P) hop et hx hc hq.1 (by omega) (by simp[maxLen];omega) a w next Q hf hs fun v w' own' ⟨h1,h2⟩ hs'=>hk v w' own' ⟨h1,?_⟩ hs'
  rw[h2,Nat.mul_one]
  show row e 1 v q.toNat (madeCells #[Value.int .i64 0] q.toNat).toList::own=_
  rw[toList_madeCells_one]
  simp[ints]
end
theorem OD.negI {t:TypeId}{x:Operand}{i:Int}(hop:o.op = .unOp .neg t x)(hx:ev env x=some (.int .i64 i))(hb : -9223372036854775808≤0 - i∧0 - i≤9223372036854775807):OD P o n env W own (.int .i64 (0 - i)) own:=by
  have h:=OD.neg (P:=P) (n:=n) (W:=W) (own:=own) hop hx
  rwa [Aj hb.1 hb.2] at h
theorem ne_of_beq_false {a b:Int}(h:(a==b)=false):a≠b:=by simpa using h
theorem AA {a b:Int}(h:(a != b)=true):a≠b:=by simpa using h
theorem Al {a b:Int}(h:(a != b)=false):a=b:=by simpa using h
def evs (env:List (Nat × Value)):List Operand→Option (List Value)
  | []=>some []
  | x::xs=>match ev env x,evs env xs with
    | some v,some vs=>some (v::vs)
    | _,_=>none
theorem Fr.evs {a:Act}(h:Fr n env a):∀ {xs:List Operand} {vs:List Value},evs env xs=some vs→xs.map a.eval=vs
  | [],vs,e=>by
    simp only[Proofs.YtbmnnbglipkidaaGreatDoor.evs,Option.some.injEq] at e
    subst e
    rfl
  | x::xs,vs,e=>by
    simp only[Proofs.YtbmnnbglipkidaaGreatDoor.evs] at e
    split at e
    · rename_i v us h1 h2
      simp only[Option.some.injEq] at e
      subst e
      simp only[List.map_cons,h.ev h1,Fr.evs h h2]
    · simp at e
theorem OG.call (vs:List Value){f:FuncId}{x:Operand}{args:List Operand}{ty:Array TypeId}{first cap us:List Value}{K:Value→List Asn→Prop}(he:∀ us w,(callFunc f us).run P w = .ok (.enter f us) w)
    (hop:o.op = .call { callee := .value x,args:=args.toArray,argTypes:=ty }) (hx:ev env x=some (.func (.func f) first.toArray cap.toArray)) (ha:Proofs.YtbmnnbglipkidaaGreatDoor.evs env args=some us) (hv:first++us++cap=vs) (spec:Spec P f vs W own K):OG P o n env W own K:=fun a w next Q hf hs hk=>by
  have hr:(execOp a.eval o).run P w = .ok (.enter f vs.toArray) w:=by
    have:=hf.evs ha
    have e1:(first.toArray++args.toArray.map a.eval++cap.toArray)=vs.toArray:=by simp[this,hv]
    simp only[execOp,hop,resolve,hf.ev hx,Deferred.ofValue,Sem.run_bind,Sem.run_pure,Result.andThen_ok,invoke,e1,he]
  unfold Oper.wp
  rw[hr]
  exact(spec w hs).mono fun e w' ⟨v,own',h1,h2,h3⟩=>by
    subst h1
    exact hk v w' own' h2 h3
def E5 (places:List (Nat × Nat))(cells:List Value):List (Nat × List Value)→Option (List Value)
  | []=>some cells
  | (i,cs)::rest=>match places[i]? with
    | none=>none
    | some (off,size)=>if cs.length=size∧off+cs.length≤cells.length then E5 places (cells.take off++cs++cells.drop (off+cs.length)) rest else none
theorem Gv {α:Type}{cs us:List α}{k m:Nat}{u:α}(h:k<cs.length):(cs.set k u).take (k+1)++us++(cs.set k u).drop (k+1+m)=cs.take k++(u::us)++cs.drop (k+(m+1)):=by
  have a1:(cs.set k u).take (k+1)=cs.take k++[u]:=by
    rw[List.take_add_one,List.take_set_of_le (Nat.le_refl _)]
    simp[h]
  have a2:(cs.set k u).drop (k+1+m)=cs.drop (k+1+m):=List.drop_set_of_lt (by omega)
  rw[a1,a2]
  simp
  congr 1
  omega
theorem F4 (cs:List Value):∀ (us:List Value) (off k:Nat),off+k+us.length≤cs.length →
    ((us.zipIdx k).foldl (fun acc (x:Value × Nat)=>acc.setIfInBounds (off+x.2) x.1) cs.toArray)=(cs.take (off+k)++us++cs.drop (off+k+us.length)).toArray:=by
  intro us
  induction us generalizing cs with
  | nil =>
    intro off k h
    simp
  | cons u us ih =>
    intro off k h
    simp only[List.length_cons] at h
    simp only[List.zipIdx_cons,List.foldl_cons]
    have e1:cs.toArray.setIfInBounds (off+k) u=(cs.set (off+k) u).toArray:=by simp
    rw[e1,ih (cs.set (off+k) u) off (k+1) (by simp;omega)]
    congr 1
    have:=Gv (us:=us) (m:=us.length) (u:=u) (show off+k<cs.length by omega)
    rw[show off+(k+1)=off+k+1 by omega,this]
    rfl
def B8:List Value→List (List Value)→Prop
  | [],[]=>True
  | v::vs,c::cs=>v.cells=c.toArray∧B8 vs cs
  | _,_=>False
theorem DC (places:List (Nat × Nat)):∀ (idx:List Nat) (vs:List Value) (css:List (List Value)) (cells r:List Value),B8 vs css→idx.length=vs.length →
    E5 places cells (idx.zip css)=some r→Instr.fill (places.toArray[·]?) cells.toArray (idx.zip vs)=some r.toArray
  | [],[],[],cells,r,_,_,h=>by
    simp[E5] at h
    subst h
    rfl
  | i::idx,v::vs,c::css,cells,r,hc,hl,h=>by
    obtain⟨h1,h2⟩:=hc
    simp only[List.zip_cons_cons,E5] at h ⊢
    simp only[Instr.fill,List.getElem?_toArray]
    split at h
    · simp at h
    · rename_i off size hp
      simp only[hp]
      split at h
      · rename_i hcond
        obtain⟨hc1,hc2⟩:=hcond
        have e0 : ¬ (v.cells.size≠size∨cells.toArray.size<off+v.cells.size):=by
          rw[h1]
          simp
          omega
        have e1 : ¬ ((v.cells.size≠size || off+v.cells.size > cells.toArray.size)=true):=by
          simpa using e0
        rw[if_neg (by simpa using e0)]
        have e2:=F4 cells c off 0 (by omega)
        simp only[Nat.add_zero] at e2
        have e3:v.cells.zipIdx.foldl (fun cs (x:Value × Nat)=>cs.setIfInBounds (off+x.2) x.1) cells.toArray=(cells.take off++c++cells.drop (off+c.length)).toArray:=by
          rw[h1,← e2,← Array.foldl_toList]
          simp
        have:=DC places idx vs css _ r h2 (by simpa using hl) h
        rw[← e3] at this
        simpa using this
      · simp at h
  | [],_::_,_,_,_,_,hl,_=>by simp at hl
  | _::_,[],_,_,_,_,hl,_=>by simp at hl
  | [],[],_::_,_,_,hc,_,_=>by simp[B8] at hc
  | _::_,_::_,[],_,_,hc,_,_=>by simp[B8] at hc
theorem OD.build {t:TypeId}{idx:List Nat}{xs:List Operand}{vs:List Value}{cs:List (List Value)}{sz:Nat}{zero:Value}{pl:List (Nat × Nat)}{zs r:List Value}(hop:o.op = .build t (idx.zip xs).toArray)(ti:TI P t true sz zero pl)(hz:zero.cells=zs.toArray)
    (hi:idx.length=xs.length) (hx:Proofs.YtbmnnbglipkidaaGreatDoor.evs env xs=some vs) (hc:B8 vs cs) (hr:E5 pl zs (idx.zip cs)=some r):OD P o n env W own (.agg r.toArray) own :=
  .of fun a w hf _=>by
    obtain⟨fs,h1,h2⟩:=ti.pl rfl
    have e:=hf.evs hx
    have hl:idx.length=vs.length:=by rw[← e,List.length_map,hi]
    have e1:((idx.zip xs).toArray.map fun(p:Nat × Operand)=>(p.1,a.eval p.2)).toList=idx.zip vs:=by
      simp only[List.map_toArray]
      rw[← e]
      clear hop hx hc hr hl e hi
      induction idx generalizing xs with
      | nil=>simp
      | cons i idx ih =>
        cases xs with
        | nil=>simp
        | cons x xs =>
          have:=ih (xs:=xs)
          simp at this ⊢
          exact this
    have hfill:=DC pl idx vs cs zs r hc hl hr
    simp only[execOp,hop]
    refine run_val ?_
    simp only[Instr.build,Sem.run_bind,ti.zeroV,Result.andThen_ok,run_underlying h1,h2,e1,hz]
    rw[hfill]
    rfl
theorem OG.buildRow {t:TypeId}{e m:Nat}{bytes:Nat}{z:Value}{xs:List Operand}{us:List Value}(hop:o.op = .buildSlice t m ((List.range' 0 m).zip xs).toArray)(et:ET P t e 1 bytes z)(hl:xs.length=m)(hm:Nat.ble m 1000=true)(hx:Proofs.YtbmnnbglipkidaaGreatDoor.evs env xs=some us)(h1:us.all (·.oneCell')=true) :
    OG P o n env W own fun v own'=>Ab v∧own'=row e 1 v m us::own:=fun a w next Q hf hs hk=>by
  obtain⟨i,hi,hz0,hz1,hz2⟩:=info_parts et.hi
  have ev1:=hf.evs hx
  have hul:us.length=m:=by rw[← ev1,List.length_map,hl]
  have hm':m≤1000:=Nat.le_of_ble_eq_true hm
  have e1:(((List.range' 0 m).zip xs).toArray.map fun(p:Nat × Operand)=>(p.1,a.eval p.2)).toList=(List.range' 0 m).zip us:=by
    simp only[List.map_toArray]
    rw[← ev1,List.zip_map_right]
    simp[Prod.map]
  have key:∀ (us:List Value) (k:Nat) (cells:Array Value),us.all (·.oneCell')=true→k+us.length≤cells.size →
      Instr.fill (fun i=>some (i*1,1)) cells ((List.range' k us.length).zip us)=some (cells.toList.take k++us++cells.toList.drop (k+us.length)).toArray:=by
    intro us
    induction us with
    | nil=>intro k cells _ _;simp[Instr.fill]
    | cons u us ih =>
      intro k cells h1 hk
      simp only[List.all_cons,Bool.and_eq_true] at h1
      simp only[List.length_cons] at hk
      simp only[List.length_cons,List.range'_succ,List.zip_cons_cons,Instr.fill,AN h1.1]
      rw[if_neg (by simp;omega)]
      have e2:(#[u].zipIdx.foldl (fun cs (x:Value × Nat)=>cs.setIfInBounds (k*1+x.2) x.1) cells)=cells.setIfInBounds k u:=by
        simp
      have:=ih (k+1) (cells.setIfInBounds k u) h1.2 (by simp;omega)
      rw[e2,this]
      congr 2
      have hlt:k<cells.toList.length:=by simp;omega
      rw[Array.toList_setIfInBounds]
      exact Gv hlt
  have hsz:m*1≤16777216:=by omega
  have hrange:((List.range' 0 m).zip us)=(List.range' 0 us.length).zip us:=by rw[hul]
  have hr:∃ cs:Array Value,cs=us.toArray∧(execOp a.eval o).run P w = .ok (.value (.slice (some ⟨w.heap.size,0,none⟩) m m)) (w.alloc (.cells cs e)):=by
    refine⟨_,rfl,?_⟩
    simp only[execOp,hop]
    refine run_val ?_
    have hfill:=key us 0 ((Array.range (m*1)).map (z.cells[· % z.cells.size]!)) h1 (by simp[hul])
    have hfill':Instr.fill (fun i=>some (i*1,1)) ((Array.range (m*1)).map (z.cells[· % z.cells.size]!)) ((List.range' 0 m).zip us)=some us.toArray:=by
      rw[hrange,hfill]
      congr 1
      simp[hul]
    simp only[Instr.buildSlice,Sem.run_bind,run_underlying et.ht,Result.andThen_ok,e1]
    have hso:(sizeOf e).run P w = .ok 1 w:=by simp[sizeOf,typeInfo,hi,hz1]
    simp only[hso,Result.andThen_ok]
    rw[if_neg (by omega)]
    by_cases hm0:m=0
    · have hus:us = []:=List.eq_nil_of_length_eq_zero (by omega)
      subst hm0 hus
      have e0:(Array.map (fun _:Nat=>(default:Value)) (Array.range 0)) = #[]:=by simp[Array.range]
      simp[Instr.fill,newRow,e0]
    · simp only[Nat.mul_one] at hfill' ⊢
      simp[if_neg hm0,zeroValue,typeInfo,hi,hz0,newRow,hfill']
  obtain⟨cs,rfl,hr⟩:=hr
  unfold Oper.wp
  rw[hr]
  refine hk _ _ _ ⟨⟨_,_,_,rfl⟩,rfl⟩ (C0 hs (.inr ⟨by simp[hul],w.heap.size,m,us.toArray,rfl,Nat.le_refl _,heap_alloc_new w _,Nat.le_refl _,by simp[maxLen];omega,by simp[hul],?_⟩) ((Below.refl _ _).alloc (Nat.le_refl _) _))
  rw[List.take_of_length_le (by simp[hul])]
theorem OG.buildInts {t:TypeId}{e m:Nat}{xs:List Operand}{us:List Value}{is:List Int}(hop:o.op = .buildSlice t m ((List.range' 0 m).zip xs).toArray)(et:ET P t e 1 8 (.int .i64 0))(hl:xs.length=m)(hm:Nat.ble m 1000=true)(hx:Proofs.YtbmnnbglipkidaaGreatDoor.evs env xs=some us)(hu:us=is.map (Value.int .i64))(hi:is.length=m) :
    OG P o n env W own fun v own'=>Ab v∧own'=ints e v is::own:=by
  subst hu
  have h:=OG.buildRow (P:=P) (n:=n) (W:=W) (own:=own) hop et hl hm hx (by simp[Value.oneCell'])
  rw[← hi] at h
  exact h
theorem Li {t ty e sz bytes:Nat}{z:Value}(et:ET P t e sz bytes z){w:World}{B:Nat}{v:Value}{n:Nat}{cs:List Value}(h:Ch w B e sz v n cs)(hB:B≤w.heap.size)
    {vx:Value} {m:Nat} {news:List Value} (hx:Sl w vx m sz news) (h1:∀ u∈news,u.oneCell'=true) (hm:n+m≤maxLen) (hb:(n+m)*bytes≤140737488355328) :
    ∃ v' w',(Builtin.append_ #[t,t] ty #[v,vx]).run P w = .ok v' w'∧Ch w' B e sz v' (n+m) (cs++news)∧w.grownBy w' v.ownBlock∧Ab v'∧∀ k,v'.ownBlock=some k→v.ownBlock=some k∨w.heap.size≤k:=by
  by_cases hroom:∃ g cap,v = .slice (some ⟨g,0,none⟩) n cap∧n+m≤cap
  · obtain⟨v',w',hr,r1,r2⟩:=DE et ty h hB hx h1 hm hb
    refine⟨v',w',hr,r1,r2,?_,fun k hk=>?_⟩
    · obtain⟨ao,cap,hv⟩:=r1.form
      exact⟨ao,_,cap,hv⟩
    · obtain⟨g,cap,rfl,hle⟩:=hroom
      obtain⟨_,ao,cx,rfl,_,_,_,hcx⟩:=hx
      obtain⟨i,hi,hz0,hz1,hz2⟩:=info_parts et.hi
      by_cases hm0:m=0
      · subst hm0
        have hnews:news = []:=List.eq_nil_of_length_eq_zero (by simpa using(by assumption:news.length=0*sz))
        rw[C8 et ty (some ⟨g,0,none⟩) ao n cap cx hle w] at hr
        simp only[Result.ok.injEq] at hr
        obtain⟨rfl,_⟩:=hr
        exact .inl hk
      · obtain⟨b,off,rfl,_,hcell⟩:=hcx (by omega)
        rcases h with⟨_,_,hv⟩ | ⟨h0,g',cap',cur,hv,hBg,hg,hnc,hcm,hs,ht⟩
        · simp at hv
        · simp only[Value.slice.injEq,Option.some.injEq,Addr.mk.injEq,and_true,true_and] at hv
          obtain⟨rfl,rfl⟩:=hv
          have hnl:news.length=m*sz:=by assumption
          have hnews:∀ j u,news[j]?=some u→w.cell? ((⟨b,off,none⟩:Addr).add j)=some u:=by
            intro j u hj
            have hjl:j<news.length:=(List.getElem?_eq_some_iff.1 hj).1
            rw[Addr.add_lit,hcell j (by omega)]
            simp[List.getD,hj]
          subst hz1
          have hfit:n*i.size+news.length≤cur.size:=by
            rw[hnl,hs,← Nat.add_mul]
            exact Nat.mul_le_mul_right _ hle
          have:=run_append_room (P:=P) w t ty e i et.ht hi g n cap cur hg ⟨b,off,none⟩ m cx news hnl hnews h1 hle hfit
          rw[this] at hr
          simp only[Result.ok.injEq] at hr
          obtain⟨rfl,_⟩:=hr
          exact .inl hk
  · obtain⟨v',w',hr,r1,r2⟩:=DE et ty h hB hx h1 hm hb
    refine⟨v',w',hr,r1,r2,?_,fun k hk=>?_⟩
    · obtain⟨ao,cap,hv⟩:=r1.form
      exact⟨ao,_,cap,hv⟩
    · obtain⟨hnl,ao,cx,rfl,_,_,_,hcx⟩:=hx
      obtain⟨i,hi,hz0,hz1,hz2⟩:=info_parts et.hi
      by_cases hm0:m=0
      · rcases h with⟨h0,hcs,rfl⟩ | ⟨h0,g',cap',cur,rfl,hBg,hg,hnc,hcm,hs,ht⟩
        · subst hm0 h0
          rw[C8 et ty none ao 0 0 cx (Nat.le_refl _) w] at hr
          simp only[Result.ok.injEq] at hr
          obtain⟨rfl,_⟩:=hr
          exact .inl hk
        · exact absurd ⟨g',cap',rfl,by omega⟩ hroom
      · obtain⟨b,off,rfl,_,hcell⟩:=hcx (by omega)
        have hnews:∀ j u,news[j]?=some u→w.cell? ((⟨b,off,none⟩:Addr).add j)=some u:=by
          intro j u hj
          have hjl:j<news.length:=(List.getElem?_eq_some_iff.1 hj).1
          rw[Addr.add_lit,hcell j (by omega)]
          simp[List.getD,hj]
        subst hz1 hz2
        have hsmall:n+m≤9223372036854775807:=by simp only[maxLen] at hm;omega
        rcases h with⟨h0,hcs,rfl⟩ | ⟨h0,g',cap',cur,rfl,hBg,hg,hnc,hcm,hs,ht⟩
        · subst h0
          have:=run_append_nil (P:=P) w t ty e i z et.ht hi hz0 ⟨b,off,none⟩ m cx news hnl hnews (by omega) (by omega) (by simp only[Nat.zero_add] at hb;omega)
          rw[this] at hr
          simp only[Result.ok.injEq] at hr
          obtain⟨rfl,_⟩:=hr
          simp only[Value.ownBlock,Option.some.injEq] at hk
          exact .inr (by omega)
        · have hng : ¬ (n+m≤cap'):=fun hle=>hroom ⟨g',cap',rfl,hle⟩
          have hrow:w.ownsRow B e i.size (.slice (some ⟨g',0,none⟩) n cap') n cs:=⟨h0,.inr ⟨g',cap',cur,rfl,hBg,hg,hnc,hcm,hs,ht⟩⟩
          have holds:∀ j u,cs[j]?=some u→w.cell? ((⟨g',0,none⟩:Addr).add j)=some u:=hrow.cells (g:=g') rfl
          have:=run_append_grow (P:=P) w t ty e i z et.ht hi hz0 ⟨g',0,none⟩ n cap' cs h0 holds ⟨b,off,none⟩ m cx news hnl hnews (by omega) (by omega) (growslice_fits (by omega) hb)
          rw[this] at hr
          simp only[Result.ok.injEq] at hr
          obtain⟨rfl,_⟩:=hr
          simp only[Value.ownBlock,Option.some.injEq] at hk
          exact .inr (by omega)
theorem OG.append (i:Nat){c:Call}{t:TypeId}{x y:Operand}{e sz bytes m k:Nat}{v vx z:Value}{cs news:List Value}(hop:o.op = .call c)(hc:c={ callee := .builtin .append,args:=#[x,y],argTypes:=#[t,t] })(et:ET P t e sz bytes z)
    (hx:ev env x=some v) (hy:ev env y=some vx) (hi:own[i]?=some (row e sz v k cs)) (hv:Ent own fun w=>Sl w vx m sz news) (h1:∀ u∈news,u.oneCell'=true) (hb:(k+m)*bytes≤140737488355328∧k+m≤maxLen) :
    OG P o n env W own fun v' own'=>Ab v'∧own'=own.set i (row e sz v' (k+m) (cs++news)):=fun a w next Q hf hs hk=>by
  obtain⟨F1,⟨f0,f1⟩,f2,f3⟩:=hs.upd hi
  obtain⟨v',w',hr,r1,r2,r3,r4⟩:=Li (P:=P) (ty:=o.type) et f0 (Nat.zero_le _) (hv W w hs) h1 hb.2 hb.1
  have hr':(execOp a.eval o).run P w = .ok (.value v') w':=by
    subst hc
    simp[execOp,hop,resolve,invoke,builtin,hf.ev hx,hf.ev hy,hr]
  unfold Oper.wp
  rw[hr']
  refine hk _ _ _ ⟨r3,rfl⟩ (f3 w' _ (fun k=>v'.ownBlock=some k) r2.os r2.tape r2.output r2.size ⟨r1,fun _=>Iff.rfl⟩ (fun k hk1 hk2=>r2.block k hk1 fun e=>hk2 ((f1 k).2 e.symm)) fun k hk=>?_)
  refine⟨?_,?_⟩
  · rcases r4 k hk with h | h
    · exact .inl ((f1 k).2 h)
    · exact .inr h
  · rcases r1.blk with h | ⟨g,h,_,h2⟩
    · simp[h] at hk
    · rw[h] at hk
      cases hk
      exact h2
theorem OG.appendInts (i:Nat){c:Call}{t:TypeId}{x y:Operand}{e:Nat}{v vx:Value}{xs ys:List Int}(hop:o.op = .call c)(hc:c={ callee := .builtin .append,args:=#[x,y],argTypes:=#[t,t] })(et:ET P t e 1 8 (.int .i64 0))
    (hx:ev env x=some v) (hy:ev env y=some vx) (hi:own[i]?=some (ints e v xs)) (hv:Ent own fun w=>Ints w vx ys) (hb:xs.length+ys.length≤1099511627776) :
    OG P o n env W own fun v' own'=>Ab v'∧own'=own.set i (ints e v' (xs++ys)):=by
  have h:=OG.append (P:=P) (n:=n) (W:=W) i hop hc et hx hy hi hv (Eu _) (by simp[maxLen];omega)
  simp only[ints,List.length_append,List.map_append]
  exact h
theorem St.nilRow {w:World}(h:St W w own)(e sz:Nat):St W w (row e sz (.slice none 0 0) 0 []::own) :=
  h.push (Below.refl _ _) _ (fun _=>False) ⟨.inl ⟨rfl,rfl,rfl⟩,fun _=>by simp[Value.ownBlock]⟩ fun _ h=>h.elim
theorem GE.nilInts {x:Exit}{Q:Exit→Act→World→Prop}(e:Nat)(h:GE x Q n env W (ints e (.slice none 0 0) []::own)):GE x Q n env W own:=fun a w hf hs=>h a w hf (hs.nilRow e 1)
def Hk (a:Act):ResultVar→Sem Value
  | .tmp t=>pure (a.tmps.getD t undef)
  | .cell c t=>do loadVar t (← asAddr (a.tmps.getD c undef))
theorem Ki (fn:Func)(a:Act):results fn a.tmps=(do let vs ← fn.results.mapM (Hk a);pure (if h:vs.size=1 then vs[0] else .tuple vs)):=by
  unfold results
  congr 1
def RV (P:Program)(n:Nat)(env:List (Nat × Value))(W:World)(own:List Asn)(r:ResultVar)(v:Value):Prop :=
  ∀ (a:Act) w,Fr n env a→St W w own→(Hk a r).run P w = .ok v w
theorem AD {t:Tmp}{v:Value}(h:lk t env=some v):RV P n env W own (.tmp t) v:=fun a w hf _=>by
  have:=hf.slot t v h
  simp[Hk,this]
theorem Ag {c t:Nat}{g T i sz:Nat}{cs:List Value}{zero:Value}{pl:List (Nat × Nat)}(ti:TI P t true sz zero pl)(h:lk c env=some (.pointer (some ⟨g,0,none⟩)))(hi:own[i]?=some (Proofs.YtbmnnbglipkidaaGreatDoor.box g T cs))(hl:cs.length=sz):RV P n env W own (.cell c t) (.agg cs.toArray):=fun a w hf hs=>by
  have:=hf.slot c _ h
  have hb:=hs.box hi
  have hlo:(loadCells ⟨g,0,none⟩ cs.length).run P w = .ok cs.toArray w:=by
    refine run_loadCells_list w _ cs fun j u hj=>?_
    rw[Addr.add_lit]
    simp[World.cell?,hb,hj]
  rw[hl] at hlo
  simp[Hk,this,asAddr,loadVar,ti.ag,ti.size,hlo]
def RVs (P:Program)(n:Nat)(env:List (Nat × Value))(W:World)(own:List Asn):List ResultVar→List Value→Prop
  | [],[]=>True
  | r::rs,v::vs=>RV P n env W own r v∧RVs P n env W own rs vs
  | _,_=>False
theorem RVs.nil:RVs P n env W own [] []:=trivial
theorem RVs.cons {r:ResultVar}{v:Value}{rs:List ResultVar}{vs:List Value}(h:RV P n env W own r v)(hs:RVs P n env W own rs vs):RVs P n env W own (r::rs) (v::vs):=⟨h,hs⟩
def VB:List Value→Value
  | [v]=>v
  | vs => .tuple vs.toArray
theorem AZ {fn:Func}{rs:List ResultVar}{vs:List Value}{v:Value}(h:fn.results=rs.toArray)(hr:RVs P n env W own rs vs)(hv:VB vs=v):∀ a w,Fr n env a→St W w own→(results fn a.tmps).run P w = .ok v w:=fun a w hf hs=>by
  subst hv
  rw[Ki,h]
  have key:∀ (rs:List ResultVar) (vs:List Value),RVs P n env W own rs vs→(rs.mapM (Hk a)).run P w = .ok vs w:=by
    intro rs
    induction rs with
    | nil=>intro vs h;cases vs <;> simp_all [RVs]
    | cons r rs ih =>
      intro vs h
      cases vs with
      | nil=>simp[RVs] at h
      | cons v vs =>
        obtain⟨h1,h2⟩:=h
        have e1:=h1 a w hf hs
        have e2:=ih vs h2
        simp only[List.mapM_cons,Sem.run_bind]
        rw[e1]
        simp only[Result.andThen_ok,e2,Sem.run_pure]
  have hk:=key rs vs hr
  simp only[List.mapM_toArray,Sem.run_bind,Sem.run_map]
  rw[hk]
  simp only[Result.andThen_ok,Sem.run_pure]
  congr 1
  match vs with
  | []=>rfl
  | [v]=>rfl
  | v::u::vs=>simp[VB]
end
end Go.Proofs.YtbmnnbglipkidaaGreatDoor
