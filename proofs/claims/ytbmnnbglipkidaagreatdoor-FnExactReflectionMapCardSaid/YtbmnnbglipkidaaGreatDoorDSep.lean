/-
  Once more, with draws that are counted: a small logic of owned blocks for this seat's walks: what a call owns is a list of assertions, each on blocks of its own (St); frames are read by slot (Fr); and the laws of the steps of code in these words.
-/
import Derived.Test.YtbmnnbglipkidaaGreatDoorZ44
namespace Go.Proofs.YtbmnnbglipkidaaGreatDoor.D
set_option linter.unusedVariables false
set_option linter.unusedSimpArgs false
open Go.RowKit
structure Asn where
  p:(Nat→Prop)→World→Prop
  loc:∀ {F:Nat→Prop} {w w':World},p F w→(∀ g,F g→w'.heap[g]?=w.heap[g]?)→p F w'
def A5:List Asn→(Nat→Prop)→World→Prop
  | [],F,_=>∀ g,¬ F g
  | A::L,F,w=>∃ F1 F2:Nat→Prop,(∀ g,F g↔F1 g∨F2 g)∧(∀ g,F1 g→¬ F2 g)∧A.p F1 w∧A5 L F2 w
theorem A5.loc:∀ {L:List Asn} {F:Nat→Prop} {w w':World},A5 L F w→(∀ g,F g→w'.heap[g]?=w.heap[g]?)→A5 L F w'
  | [],_,_,_,h,_=>h
  | _::_,_,_,_,⟨F1,F2,h1,h2,h3,h4⟩,hw=>⟨F1,F2,h1,h2,Asn.loc _ h3 fun g hg=>hw g ((h1 g).2 (.inl hg)),A5.loc h4 fun g hg=>hw g ((h1 g).2 (.inr hg))⟩
theorem A5.get:∀ {L:List Asn} {F:Nat→Prop} {w:World} {i:Nat} {A:Asn},A5 L F w→L[i]?=some A→∃ F1:Nat→Prop,(∀ g,F1 g→F g)∧A.p F1 w
  | [],_,_,i,_,_,hi=>by simp at hi
  | B::L,F,w,0,A,⟨F1,F2,h1,h2,h3,h4⟩,hi=>by
    simp at hi
    subst hi
    exact⟨F1,fun g hg=>(h1 g).2 (.inl hg),h3⟩
  | B::L,F,w,i+1,A,⟨F1,F2,h1,h2,h3,h4⟩,hi=>by
    obtain⟨G,g1,g2⟩:=A5.get h4 (i:=i) (A:=A) (by simpa using hi)
    exact⟨G,fun g hg=>(h1 g).2 (.inr (g1 g hg)),g2⟩
theorem A5.perm {L L':List Asn}(hp:L.Perm L'):∀ {F:Nat→Prop} {w:World},A5 L F w→A5 L' F w:=by
  induction hp with
  | nil=>exact fun h=>h
  | cons A _ ih=>exact fun⟨F1,F2,h1,h2,h3,h4⟩=>⟨F1,F2,h1,h2,h3,ih h4⟩
  | swap A B L =>
    rintro F w ⟨F1,F2,h1,h2,h3,G1,G2,g1,g2,g3,g4⟩
    refine⟨G1,fun g=>F1 g∨G2 g,fun g=>?_,fun g hg=>?_,g3,F1,G2,fun g=>Iff.rfl,fun g hg h=>h2 g hg ((g1 g).2 (.inr h)),h3,g4⟩
    · rw[h1,g1]
      constructor
      · rintro(h | h | h)
        · exact .inr (.inl h)
        · exact .inl h
        · exact .inr (.inr h)
      · rintro(h | h | h)
        · exact .inr (.inl h)
        · exact .inl h
        · exact .inr (.inr h)
    · rintro(h | h)
      · exact h2 g h ((g1 g).2 (.inl hg))
      · exact g2 g hg h
  | trans _ _ ih1 ih2=>exact fun h=>ih2 (ih1 h)
theorem A5.sub {L' L:List Asn}(hs:L'.Sublist L):∀ {F:Nat→Prop} {w:World},A5 L F w→∃ F':Nat→Prop,(∀ g,F' g→F g)∧A5 L' F' w:=by
  induction hs with
  | slnil=>exact fun {F} _ h=>⟨F,fun _ h=>h,h⟩
  | cons A _ ih =>
    rintro F w ⟨F1,F2,h1,h2,h3,h4⟩
    obtain⟨F',f1,f2⟩:=ih h4
    exact⟨F',fun g hg=>(h1 g).2 (.inr (f1 g hg)),f2⟩
  | cons_cons A _ ih =>
    rintro F w ⟨F1,F2,h1,h2,h3,h4⟩
    obtain⟨F',f1,f2⟩:=ih h4
    refine⟨fun g=>F1 g∨F' g,fun g hg=>(h1 g).2 (hg.imp id (f1 g)),F1,F',fun g=>Iff.rfl,fun g hg h=>h2 g hg (f1 g h),h3,f2⟩
structure St (W w:World)(own:List Asn):Prop where
  os:w.os=W.os
  tape:w.tape=W.tape
  output:w.output=W.output∧W.drawn≤w.drawn
  held:∃ F:Nat→Prop,(∀ g,F g→g<w.heap.size)∧A5 own F w
theorem St.below {W w w':World}{own:List Asn}(h:St W w own)(hb:Below w.heap.size w w')(hd:w.drawn≤w'.drawn:=by exact Nat.le_refl _):St W w' own:=by
  obtain⟨h1,h2,h3,F,h4,h5⟩:=h
  exact⟨hb.os.trans h1,hb.tape.trans h2,⟨hb.output.trans h3.1,Nat.le_trans h3.2 hd⟩,F,fun g hg=>Nat.lt_of_lt_of_le (h4 g hg) hb.size,h5.loc fun g hg=>hb.block g (h4 g hg)⟩
theorem St.sub {W w:World}{own own':List Asn}(h:St W w own)(hp:own'.Sublist own):St W w own':=by
  obtain⟨h1,h2,h3,F,h4,h5⟩:=h
  obtain⟨F',f1,f2⟩:=h5.sub hp
  exact⟨h1,h2,h3,F',fun g hg=>h4 g (f1 g hg),f2⟩
theorem Bv:∀ {own:List Asn} {i:Nat} {A:Asn},own[i]?=some A→own.Perm (A::own.eraseIdx i)
  | [],i,_,h=>by simp at h
  | B::L,0,A,h=>by
    simp at h
    subst h
    simp
  | B::L,i+1,A,h=>by
    have:=Bv (own:=L) (i:=i) (A:=A) (by simpa using h)
    simp only[List.eraseIdx_cons_succ]
    exact(this.cons B).trans (List.Perm.swap _ _ _)
def Kp:List Nat→Nat→List Asn→List Asn
  | [],m,own=>own.drop m
  | i::is,m,own=>match own[i]? with
    | some A=>A::Kp is m (own.eraseIdx i)
    | none=>Kp is m own
theorem A5.kp:∀ (is:List Nat) (m:Nat) {own:List Asn} {F:Nat→Prop} {w:World},A5 own F w→∃ F':Nat→Prop,(∀ g,F' g→F g)∧A5 (Kp is m own) F' w
  | [],m,own,F,w,h=>h.sub (List.drop_sublist _ _)
  | i::is,m,own,F,w,h=>by
    unfold Kp
    split
    · rename_i A hA
      obtain⟨F1,F2,h1,h2,h3,h4⟩:=h.perm (Bv hA)
      obtain⟨F',f1,f2⟩:=A5.kp is m h4
      exact⟨fun g=>F1 g∨F' g,fun g hg=>(h1 g).2 (hg.imp id (f1 g)),F1,F',fun g=>Iff.rfl,fun g hg h=>h2 g hg (f1 g h),h3,f2⟩
    · exact A5.kp is m h
theorem St.kp {W w:World}{own own':List Asn}(is:List Nat)(m:Nat)(h:St W w own)(he:Kp is m own=own'):St W w own':=by
  subst he
  obtain⟨h1,h2,h3,F,h4,h5⟩:=h
  obtain⟨F',f1,f2⟩:=h5.kp is m
  exact⟨h1,h2,h3,F',fun g hg=>h4 g (f1 g hg),f2⟩
theorem St.drop {W w:World}{own:List Asn}(h:St W w own)(k:Nat):St W w (own.drop k):=h.sub (List.drop_sublist _ _)
theorem St.push {W w w':World}{own:List Asn}(h:St W w own)(hb:Below w.heap.size w w')(A:Asn)(F1:Nat→Prop)(ha:A.p F1 w')(hf:∀ g,F1 g→w.heap.size≤g∧g<w'.heap.size)(hd:w.drawn≤w'.drawn:=by exact Nat.le_refl _):St W w' (A::own):=by
  obtain⟨h1,h2,h3,F,h4,h5⟩:=h
  refine⟨hb.os.trans h1,hb.tape.trans h2,⟨hb.output.trans h3.1,Nat.le_trans h3.2 hd⟩,fun g=>F1 g∨F g,fun g hg=>?_,F1,F,fun _=>Iff.rfl,fun g hg hF=>?_,ha,h5.loc fun g hg=>hb.block g (h4 g hg)⟩
  · rcases hg with hg | hg
    · exact(hf g hg).2
    · exact Nat.lt_of_lt_of_le (h4 g hg) hb.size
  · have a1:=(hf g hg).1
    have a2:=h4 g hF
    omega
def box (g T:Nat)(cs:List Value):Asn where
  p F w:=(∀ k,F k↔k=g)∧w.heap[g]?=some (.cells cs.toArray T (0,0))
  loc h hw:=⟨h.1,(hw g ((h.1 g).2 rfl)).trans h.2⟩
def row (e sz:Nat)(v:Value)(n:Nat)(cs:List Value):Asn where
  p F w:=Ch w 0 e sz v n cs∧∀ k,F k↔v.ownBlock=some k
  loc {F w w'} h hw:=by
    refine⟨?_,h.2⟩
    rcases h.1 with h1 | ⟨h0,g,cap,cur,rfl,h2,h3,h4⟩
    · exact .inl h1
    · exact .inr ⟨h0,g,cap,cur,rfl,h2,(hw g ((h.2 g).2 rfl)).trans h3,h4⟩
def ints (e:Nat)(v:Value)(xs:List Int):Asn:=row e 1 v xs.length (xs.map (Value.int .i64))
def Ent (own:List Asn)(V:World→Prop):Prop:=∀ W w,St W w own→V w
theorem Ent.drop {own:List Asn}{V:World→Prop}(k:Nat)(h:Ent (own.drop k) V):Ent own V:=fun W w hs=>h W w (hs.drop k)
theorem Ent.row {own:List Asn}{i e sz n:Nat}{v:Value}{cs:List Value}(h:own[i]?=some (row e sz v n cs)):Ent own fun w=>Sl w v n sz cs:=by
  rintro W w ⟨_,_,_,F,_,hH⟩
  obtain⟨F1,_,h1⟩:=hH.get h
  exact h1.1.toSl
theorem Ent.ints {own:List Asn}{i e:Nat}{v:Value}{xs:List Int}(h:own[i]?=some (ints e v xs)):Ent own fun w=>Ints w v xs:=Ent.row h
def Ab (v:Value):Prop:=∃ ao n cap,v = .slice ao n cap
theorem Ab.one {v:Value}(h:Ab v):v.oneCell'=true:=by
  obtain⟨ao,n,cap,rfl⟩:=h
  rfl
theorem Ab.nil:Ab (.slice none 0 0):=⟨_,_,_,rfl⟩
theorem Da {a b:Nat}(h:Nat.blt a b=true):a<b:=by rwa [Nat.blt_eq] at h
theorem Dr {a b:Nat}(h:a≠b):Nat.beq a b=false:=by
  cases hb:Nat.beq a b
  · rfl
  · exact absurd (Nat.eq_of_beq_eq_true hb) h
def lk (s:Nat):List (Nat × Value)→Option Value
  | []=>none
  | (k,v)::t=>bif Nat.beq s k then some v else lk s t
structure Fr (n:Nat)(env:List (Nat × Value))(a:Act):Prop where
  df:a.defers = []
  sz:a.tmps.size=n
  slot:∀ s v,lk s env=some v→a.tmps[s]?=some v
def ev (env:List (Nat × Value)):Operand→Option Value
  | .tmp t=>lk t env
  | .const v=>some v
  | .global g=>some (.pointer (some ⟨g,0,none⟩))
  | .func f=>some (.func (.func f) #[] #[])
theorem Fr.ev {n:Nat}{env:List (Nat × Value)}{a:Act}(h:Fr n env a){x:Operand}{v:Value}(hx:ev env x=some v):a.eval x=v:=by
  cases x with
  | tmp t =>
    have:=h.slot t v hx
    simp[Act.eval,this]
  | const u=>exact Option.some.inj hx
  | global g=>exact Option.some.inj hx
  | func f=>exact Option.some.inj hx
def Gy (d:Option Nat)(v:Value)(env:List (Nat × Value)):List (Nat × Value) :=
  match d with
  | some d=>(d,v)::env
  | none=>env
def gv (n:Nat):Option Nat→Bool
  | some d=>Nat.blt d n
  | none=>true
theorem Fr.put {n:Nat}{env:List (Nat × Value)}{a:Act}(h:Fr n env a){d:Option Nat}(hd:gv n d=true)(v:Value):Fr n (Gy d v env) (a.put d v):=by
  cases d with
  | none=>exact h
  | some d =>
    have hd':d<n:=Da hd
    refine⟨h.df,by simp[Act.put,h.sz],fun s u hs=>?_⟩
    simp only[Gy,lk] at hs
    by_cases e:s=d
    · subst e
      simp at hs
      subst hs
      simp[Act.put,h.sz,hd']
    · have e':Nat.beq s d=false:=Dr e
      simp only[e',cond_false] at hs
      have:=h.slot s u hs
      simp only[Act.put]
      rw[Array.getElem?_setIfInBounds_ne (fun h=>e h.symm)]
      exact this
def Sub (env:List (Nat × Value)):List (Nat × Value)→Prop
  | []=>True
  | (s,v)::t=>lk s env=some v∧Sub env t
theorem Sub.lk {env:List (Nat × Value)}:∀ {env':List (Nat × Value)},Sub env env'→∀ s v,lk s env'=some v→lk s env=some v
  | [],_,s,v,h=>by simp[Proofs.YtbmnnbglipkidaaGreatDoor.D.lk] at h
  | (k,u)::t,hs,s,v,h=>by
    simp only[Proofs.YtbmnnbglipkidaaGreatDoor.D.lk] at h
    by_cases e:s=k
    · subst e
      simp at h
      subst h
      exact hs.1
    · have e':Nat.beq s k=false:=Dr e
      simp only[e',cond_false] at h
      exact Sub.lk hs.2 s v h
theorem Fr.sub {n:Nat}{env env':List (Nat × Value)}{a:Act}(h:Fr n env a)(hs:Sub env env'):Fr n env' a:=⟨h.df,h.sz,fun s v hl=>h.slot s v (hs.lk s v hl)⟩
section
variable {P:Program}{n:Nat}{env:List (Nat × Value)}{W:World}{own:List Asn}
def OG (P:Program)(o:Oper)(n:Nat)(env:List (Nat × Value))(W:World)(own:List Asn)(K:Value→List Asn→Prop):Prop :=
  ∀ (a:Act) (w:World) (next:Act→World→Prop) (Q:Exit→Act→World→Prop),Fr n env a→St W w own→(∀ v w' own',K v own'→St W w' own'→next (a.put o.dst v) w')→o.wp P a w next Q
def OD (P:Program)(o:Oper)(n:Nat)(env:List (Nat × Value))(W:World)(own:List Asn)(v:Value)(own':List Asn):Prop:=OG P o n env W own fun u ow=>u=v∧ow=own'
def G (P:Program)(ops:Array Oper)(Q:Exit→Act→World→Prop)(rest:List Oper)(n:Nat)(env:List (Nat × Value))(W:World)(own:List Asn):Prop :=
  ∀ a w,Fr n env a→St W w own→wpList P ops Q rest a w
def GC (P:Program)(c:Code)(Q:Exit→Act→World→Prop)(n:Nat)(env:List (Nat × Value))(W:World)(own:List Asn):Prop :=
  ∀ a w,Fr n env a→St W w own→c.wp P Q a w
def GE (e:Exit)(Q:Exit→Act→World→Prop)(n:Nat)(env:List (Nat × Value))(W:World)(own:List Asn):Prop :=
  ∀ a w,Fr n env a→St W w own→Q e a w
variable {ops:Array Oper}{Q:Exit→Act→World→Prop}{rest:List Oper}{o:Oper}
theorem G.nil (h:GE .normal Q n env W own):G P ops Q [] n env W own:=fun a w hf hs=>wpList_nil (h a w hf hs)
variable {d:Nat}
theorem Fr.putS {a:Act}(h:Fr n env a)(ho:o.dst=some d)(hd:Nat.blt d n=true)(v:Value):Fr n ((d,v)::env) (a.put o.dst v):=by
  rw[ho]
  exact h.put (d:=some d) hd v
theorem G.step {K:Value→List Asn→Prop}(h:OG P o n env W own K)(hg:o.guard=none)(ho:o.dst=some d)(hd:Nat.blt d n=true)
    (k:∀ v own',K v own'→G P ops Q rest n ((d,v)::env) W own'):G P ops Q (o::rest) n env W own :=
  fun a w hf hs=>wpList_plain hg fun K' hK'=>h a w K' Q hf hs fun v _ own' hv hs'=>hK' _ _ (k v own' hv _ _ (hf.putS ho hd v) hs')
theorem G.stepD {v:Value}{own':List Asn}(h:OD P o n env W own v own')(hg:o.guard=none)(ho:o.dst=some d)(hd:Nat.blt d n=true)
    (k:G P ops Q rest n ((d,v)::env) W own'):G P ops Q (o::rest) n env W own :=
  G.step h hg ho hd fun _ _ ⟨e1,e2⟩=>by subst e1 e2;exact k
theorem OD.eqv {v v':Value}{own':List Asn}(h:OD P o n env W own v own')(e:v=v'):OD P o n env W own v' own':=e ▸ h
theorem GC.region {id:Nat}{l:List Oper}(h:G P l.toArray Q l n env W own):GC P (.region id l.toArray false) Q n env W own:=fun a w hf hs=>wp_region_lit (h a w hf hs)
theorem GC.seq {x y:Code}(h:GC P x (Exit.then (fun a w=>y.wp P Q a w) Q) n env W own):GC P (.seq x y) Q n env W own:=fun a w hf hs=>wp_seq (h a w hf hs)
theorem GC.skip (h:GE .normal Q n env W own):GC P .skip Q n env W own:=fun a w hf hs=>wp_skip (h a w hf hs)
theorem GC.exit {id:Nat}(h:GE (.exit id) Q n env W own):GC P (.exit id) Q n env W own:=fun a w hf hs=>wp_exit (h a w hf hs)
theorem GC.ret (h:GE .ret Q n env W own):GC P .ret Q n env W own:=fun a w hf hs=>wp_ret (h a w hf hs)
theorem GC.block {id:Nat}{c:Code}(h:GC P c (Exit.inBlock id Q) n env W own):GC P (.block id c) Q n env W own:=fun a w hf hs=>wp_block (h a w hf hs)
theorem GC.cond {c:Operand}{x y:Code}{b:Bool}(hc:ev env c=some (.bool b))(ht:b=true→GC P x Q n env W own)(hf:b=false→GC P y Q n env W own):GC P (.cond c x y) Q n env W own :=
  fun a w hfr hs=>wp_cond_split (hfr.ev hc) (fun h=>ht h a w hfr hs) (fun h=>hf h a w hfr hs)
theorem GC.condF {c:Operand}{x y:Code}(hc:ev env c=some (.bool false))(hf:GC P y Q n env W own):GC P (.cond c x y) Q n env W own :=
  fun a w hfr hs=>wp_cond_false (hfr.ev hc) (hf a w hfr hs)
theorem GE.then_ {c:Code}{Q':Exit→Act→World→Prop}(h:GC P c Q' n env W own):GE .normal (Exit.then (fun a w=>c.wp P Q' a w) Q) n env W own:=h
theorem GE.pass {K:Act→World→Prop}{id:Nat}(h:GE (.exit id) Q n env W own):GE (.exit id) (Exit.then K Q) n env W own:=h
theorem GE.passR {K:Act→World→Prop}(h:GE .ret Q n env W own):GE .ret (Exit.then K Q) n env W own:=h
theorem GE.blockN {id:Nat}(h:GE .normal Q n env W own):GE .normal (Exit.inBlock id Q) n env W own:=h
theorem GE.blockR {id:Nat}(h:GE .ret Q n env W own):GE .ret (Exit.inBlock id Q) n env W own:=h
theorem GE.hit {id:Nat}(h:GE .normal Q n env W own):GE (.exit id) (Exit.inBlock id Q) n env W own:=fun a w hf hs=>by
  simp only[Exit.inBlock,if_true]
  exact h a w hf hs
theorem wp_loop_ghost {ι:Type}{c:Code}(I:ι→Act→World→Prop)(μ:ι→Nat)(round:∀ i a w,I i a w→c.wp P (Exit.then (fun a' w'=>∃ j,I j a' w'∧μ j<μ i) Q) a w) :
    ∀ (i:ι) (a:Act) (w:World),I i a w→(Code.loop c).wp P Q a w:=by
  intro i a w h0 b k cs
  have key:∀ m i a w,μ i=m→I i a w →
      ∃ e a' w',Q e a' w'∧Arrives P (lone (b.at a (.code c :: .inLoop c::k)) cs w) b k cs e a' w':=by
    intro m
    induction m using Nat.strongRecOn with
    | _ m ih =>
      intro i a w hn hI
      obtain⟨e,a₁,w₁,hq,harr⟩:=round i a w hI b (.inLoop c::k) cs
      cases e with
      | normal =>
        obtain⟨j,hI₁,hlt⟩:=hq
        obtain⟨e₂,a₂,w₂,hq₂,harr₂⟩:=ih (μ j) (hn ▸ hlt) j a₁ w₁ rfl hI₁
        exact⟨e₂,a₂,w₂,hq₂,.of_steps (Steps.trans harr (.one step_inLoop)) harr₂⟩
      | exit id=>exact⟨_,a₁,w₁,hq,.pass (x := .inLoop c) rfl (fun _ _ => .inl (by simp)) harr⟩
      | goto l=>exact⟨_,a₁,w₁,hq,.pass (x := .inLoop c) rfl (fun _ _ => .inl (by simp)) harr⟩
      | ret=>exact⟨_,a₁,w₁,hq,.pass (x := .inLoop c) rfl (fun _ _ => .inl (by simp)) harr⟩
      | panic ch=>exact⟨_,a₁,w₁,hq,.pass (x := .inLoop c) rfl (fun _ _ => .inl (by simp)) harr⟩
      | outgrown=>exact⟨_,a₁,w₁,hq,.pass (x := .inLoop c) rfl (fun _ _ => .inl (by simp)) harr⟩
  obtain⟨e,a',w',hq,harr⟩:=key _ i a w rfl h0
  exact⟨e,a',w',hq,.of_steps (.one step_loop) harr⟩
def K3 {ι:Type}(E:ι→List (Nat × Value))(O:ι→List Asn)(inv:ι→Prop)(μ:ι→Nat)(n:Nat)(W:World)(i:ι)(a:Act)(w:World):Prop :=
  ∃ j,(inv j∧Fr n (E j) a∧St W w (O j))∧μ j<μ i
theorem GC.loop {ι:Type}{c:Code}(E:ι→List (Nat × Value))(O:ι→List Asn)(inv:ι→Prop)(μ:ι→Nat)(i0:ι)(h0:inv i0)(he:Sub env (E i0))(is:List Nat)(m:Nat)(ho:Kp is m own=O i0)
    (hr:∀ i,inv i→GC P c (Exit.then (K3 E O inv μ n W i) Q) n (E i) W (O i)):GC P (.loop c) Q n env W own :=
  fun a w hf hs=>wp_loop_ghost (fun i a w=>inv i∧Fr n (E i) a∧St W w (O i)) μ (fun i a' w' ⟨h1,h2,h3⟩=>hr i h1 a' w' h2 h3) i0 a w ⟨h0,hf.sub he,hs.kp is m ho⟩
theorem GE.again {ι:Type}{E:ι→List (Nat × Value)}{O:ι→List Asn}{inv:ι→Prop}{μ:ι→Nat}{i:ι}(j:ι)(hi:inv j)(hm:μ j<μ i)(he:Sub env (E j))(is:List Nat)(m:Nat)(ho:Kp is m own=O j) :
    GE .normal (Exit.then (K3 E O inv μ n W i) Q) n env W own:=fun a w hf hs=>⟨j,⟨hi,hf.sub he,hs.kp is m ho⟩,hm⟩
def Spec (P:Program)(f:FuncId)(vs:List Value)(W:World)(own:List Asn)(K:Value→List Asn→Prop):Prop :=
  ∀ w,St W w own→Calls P f vs.toArray w fun e w'=>∃ v own',e = .returned v∧K v own'∧St W w' own'
def CF:Nat→List Value→List (Nat × Value)
  | _,[]=>[]
  | k,v::vs=>(k,v)::CF (k+1) vs
theorem Dv:∀ (vs:List Value) (k s:Nat) (v:Value),lk s (CF k vs)=some v→k≤s∧vs[s - k]?=some v
  | [],_,_,_,h=>by simp[CF,lk] at h
  | u::vs,k,s,v,h=>by
    simp only[CF,lk] at h
    by_cases e:s=k
    · subst e
      simp at h
      subst h
      simp
    · have e':Nat.beq s k=false:=Dr e
      simp only[e',cond_false] at h
      obtain⟨h1,h2⟩:=Dv vs (k+1) s v h
      refine⟨by omega,?_⟩
      have:s - k=(s - (k+1))+1:=by omega
      rw[this]
      simpa using h2
theorem Spec.enter {f:FuncId}{vs:List Value}{K:Value→List Asn→Prop}(fn:Func)(c:Code)(hf:P.funcs[f]?=some fn)(hb:fn.body=some c)(hn:fn.ntmps=n)(hv:Nat.ble vs.length n=true)
    (h:GC P c (bodyPost P fn fun e w'=>∃ v own',e = .returned v∧K v own'∧St W w' own') n (CF 0 vs) W own):Spec P f vs W own K:=by
  intro w hs
  refine calls_of_wp hf hb (h _ w ⟨rfl,?_,fun s v hl=>?_⟩ hs)
  · have:=Nat.le_of_ble_eq_true hv
    simp[hn]
    omega
  · obtain⟨_,h2⟩:=Dv vs 0 s v hl
    have hlt:=(List.getElem?_eq_some_iff.1 h2).1
    simp only[Nat.sub_zero] at h2 hlt
    rw[Array.getElem?_append_left (by simpa using hlt)]
    simpa using h2
theorem GE.body (is:List Nat)(m:Nat){fn:Func}{K:Value→List Asn→Prop}{v:Value}{own':List Asn}(hr:∀ a w,Fr n env a→St W w own→(results fn a.tmps).run P w = .ok v w)(ho:Kp is m own=own')(hK:K v own') :
    GE .ret (bodyPost P fn fun e w'=>∃ v own',e = .returned v∧K v own'∧St W w' own') n env W own :=
  fun a w hf hs=>⟨hf.df,v,hr a w hf hs,v,own',rfl,hK,hs.kp is m ho⟩
theorem Ao {fn:Func}{t:Tmp}(h:fn.results = #[.tmp t]){v:Value}(hv:lk t env=some v):∀ a w,Fr n env a→St W w own→(results fn a.tmps).run P w = .ok v w:=fun a w hf _=>by
  have:=hf.slot t v hv
  rw[results_tmp h]
  simp[this]
end
end Go.Proofs.YtbmnnbglipkidaaGreatDoor.D
