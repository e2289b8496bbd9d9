/-
  The base of this seat's proofs: what it means that a slice value reads as a list (Sl, Ints), that the call owns it (Ch), how these facts travel from world to world, and the laws for make and append in these words.
-/
import Derived.Test.YtbmnnbglipkidaaGreatDoorRows
import Derived.WalkKit
import Derived.WalkSpells
import Derived.WalkLawsBesides
import Derived.Deep.QuietTactic
import Derived.BigQuiet
import Derived.Deep.RegionHeld3
import Derived.Deep.DeepCutAuto
import Derived.StillTailTactics
namespace Go.Proofs.YtbmnnbglipkidaaGreatDoor
set_option linter.unusedVariables false
set_option linter.unusedSimpArgs false
open Go.RowKit
theorem hid {p:Prop}(h:p):Hid p:=h
structure ET (P:Program)(t e sz bytes:Nat)(z:Value):Prop where
  ht:P.underlying t=some (.slice e)
  hi:(P.info? e).map (fun i=>(i.zero,i.size,i.bytes))=some (some z,sz,bytes)
  hz:z.cells.size=sz
  hp:0<sz
def Sl (w:World)(v:Value)(n sz:Nat)(cs:List Value):Prop :=
  cs.length=n*sz∧∃ ao cap,v = .slice ao n cap∧n≤cap∧cap≤maxLen∧(ao=none→cap=0) ∧
    (0<n→∃ b o,ao=some ⟨b,o,none⟩∧b<w.heap.size∧∀ k,k<n*sz→w.cell? ⟨b,o+k,none⟩=some (cs.getD k undef))
def Ints (w:World)(v:Value)(xs:List Int):Prop:=Sl w v xs.length 1 (xs.map (Value.int .i64))
theorem Sl.nil (w:World)(sz:Nat):Sl w (.slice none 0 0) 0 sz []:=⟨by simp,none,0,rfl,by omega,by simp[maxLen],fun _=>rfl,by omega⟩
theorem Sl.size_le {w:World}{v:Value}{n sz:Nat}{cs:List Value}(h:Sl w v n sz cs):n≤maxLen:=by
  obtain⟨_,ao,cap,_,h1,h2,_⟩:=h
  omega
theorem Sl.same {w w':World}{v:Value}{n sz:Nat}{cs:List Value}(h:Sl w v n sz cs)(hs:w.heap.size≤w'.heap.size)
    (hb:0<n→∀ k,v.ownBlock=some k→k<w.heap.size→w'.heap[k]?=w.heap[k]?):Sl w' v n sz cs:=by
  obtain⟨h0,ao,cap,rfl,h1,h2,h3,h4⟩:=h
  refine⟨h0,ao,cap,rfl,h1,h2,h3,fun hn=>?_⟩
  obtain⟨b,o,rfl,hlt,hc⟩:=h4 hn
  refine⟨b,o,rfl,by omega,fun k hk=>?_⟩
  rw[World.cell?_of_block (hb hn b rfl hlt)]
  exact hc k hk
theorem Sl.below {w w':World}{v:Value}{n sz:Nat}{cs:List Value}(h:Sl w v n sz cs)(hb:Below w.heap.size w w'):Sl w' v n sz cs :=
  h.same hb.size fun _ k _ hk=>hb.block k hk
theorem Sl.grown {w w':World}{v:Value}{n sz:Nat}{cs:List Value}{row:Option Nat}(h:Sl w v n sz cs)(hg:w.grownBy w' row)(hne:v.ownBlock=none∨v.ownBlock≠row):Sl w' v n sz cs :=
  h.same hg.size fun _ k hk hlt=>hg.block k hlt (by rcases hne with h | h <;> simp_all)
theorem Sl.len_run {P:Program}{t e sz bytes:Nat}{z:Value}(et:ET P t e sz bytes z){w:World}{v:Value}{n s:Nat}{cs:List Value}(h:Sl w v n s cs)(ty:TypeId)(W:World) :
    (Builtin.len_ #[t] ty #[v]).run P W = .ok (.int .i64 n) W:=by
  obtain⟨_,ao,cap,rfl,_⟩:=h
  simp[Builtin.len_,run_underlying et.ht,goInt]
theorem run_index_slice {P:Program}{t e sz bytes:Nat}{z:Value}(et:ET P t e sz bytes z)(b o n cap:Nat)(k:Nat)(hk:k<n)(W:World) :
    (Instr.indexAt t (.slice (some ⟨b,o,none⟩) n cap) (.int .i64 k)).run P W = .ok (.pointer (some ⟨b,o+k*sz,none⟩)) W:=by
  obtain⟨i,hi,hz0,hz1,hz2⟩:=info_parts et.hi
  have hadd:∀ m:Nat,(⟨b,o,none⟩:Addr).add m=⟨b,o+m,none⟩:=fun m=>by unfold Addr.add;split <;> simp_all
  simp[Instr.indexAt,run_underlying et.ht,asIntOf,sizeOf,typeInfo,hi,hz1,hadd,hk]
theorem Ints.facts {P:Program}{t e bytes:Nat}{z:Value}(et:ET P t e 1 bytes z){w:World}{v:Value}{xs:List Int}(h:Ints w v xs) :
    ∃ ad:Nat→Addr,(∀ ty W,(Builtin.len_ #[t] ty #[v]).run P W = .ok (.int .i64 xs.length) W) ∧
      (∀ W (k:Nat),k<xs.length→(Instr.indexAt t v (.int .i64 k)).run P W = .ok (.pointer (some (ad k))) W) ∧
      (∀ k,k<xs.length→w.cell? (ad k)=some (.int .i64 (xs.getD k 0)))∧(∀ k,k<xs.length→(ad k).block<w.heap.size):=by
  have hl:=fun ty W=>Sl.len_run et h ty W
  obtain⟨_,ao,cap,rfl,h1,h2,h3,h4⟩:=h
  by_cases hn:0<xs.length
  · obtain⟨b,o,rfl,hb,hc⟩:=h4 hn
    refine⟨fun k=>⟨b,o+k,none⟩,hl,fun W k hk=>by simpa using run_index_slice et b o xs.length cap k hk W,fun k hk=>?_,fun _ _=>hb⟩
    rw[hc k (by omega)]
    simp[List.getD,hk]
  · exact⟨fun _=>⟨0,0,none⟩,hl,fun W k hk=>by omega,fun k hk=>by omega,fun k hk=>by omega⟩
def Ch (w:World)(B e sz:Nat)(v:Value)(n:Nat)(cs:List Value):Prop :=
  (n=0∧cs = []∧v = .slice none 0 0)∨(cs.length=n*sz ∧
    ∃ g cap cur,v = .slice (some ⟨g,0,none⟩) n cap∧B≤g∧w.heap[g]?=some (.cells cur e (0,0))∧n≤cap∧cap≤maxLen∧cur.size=cap*sz∧cur.toList.take (n*sz)=cs)
theorem Ch.nil (w:World)(B e sz:Nat):Ch w B e sz (.slice none 0 0) 0 [] := .inl ⟨rfl,rfl,rfl⟩
theorem Ch.of_row {w:World}{B e sz:Nat}{v:Value}{n:Nat}{cs:List Value}(h:w.ownsRow B e sz v n cs):Ch w B e sz v n cs:=by
  rcases h with⟨h0,⟨rfl,rfl⟩ | h⟩
  · exact .inl ⟨rfl,by simpa using h0,rfl⟩
  · exact .inr ⟨h0,h⟩
theorem Ch.mono {w:World}{B B' e sz:Nat}{v:Value}{n:Nat}{cs:List Value}(h:Ch w B e sz v n cs)(hB:B'≤B):Ch w B' e sz v n cs:=by
  rcases h with h | ⟨h0,g,cap,cur,h1,h2,r⟩
  · exact .inl h
  · exact .inr ⟨h0,g,cap,cur,h1,by omega,r⟩
theorem Ch.sl {w:World}{B e sz:Nat}{v:Value}{n:Nat}{cs:List Value}(h:Ch w B e sz v n cs):n=0∧cs = []∧v = .slice none 0 0∨Sl w v n sz cs:=by
  rcases h with h | ⟨h0,g,cap,cur,rfl,hb,hg,hn,hm,hs,ht⟩
  · exact .inl h
  · refine .inr ⟨h0,_,cap,rfl,hn,hm,(fun h=>by cases h),fun _=>⟨g,0,rfl,(Array.getElem?_eq_some_iff.1 hg).1,fun k hk=>?_⟩⟩
    have hk':k<cs.length:=by omega
    rw[cell_of_row w g (0+k) cur e (0,0) hg,← ht]
    simp only[Nat.zero_add]
    have hlen:n*sz≤cap*sz:=Nat.mul_le_mul_right _ hn
    rw[Array.getElem?_eq_getElem (by omega)]
    simp[List.getD,hk]
    rw[Array.getElem?_eq_getElem (by omega)]
    rfl
theorem Sl.empty (w:World)(sz:Nat)(ao:Option Addr):Sl w (.slice ao 0 0) 0 sz []:=⟨by simp,ao,0,rfl,by omega,by simp[maxLen],fun _=>rfl,by omega⟩
theorem Ch.toSl {w:World}{B e sz:Nat}{v:Value}{n:Nat}{cs:List Value}(h:Ch w B e sz v n cs):Sl w v n sz cs:=by
  rcases h.sl with⟨rfl,rfl,rfl⟩ | h
  · exact Sl.empty w sz none
  · exact h
theorem Ch.lt {w:World}{B e sz:Nat}{v:Value}{n:Nat}{cs:List Value}(h:Ch w B e sz v n cs)(hn:0<n):∃ g,v.ownBlock=some g∧B≤g∧g<w.heap.size:=by
  rcases h with⟨h,_⟩ | ⟨h0,g,cap,cur,rfl,hb,hg,_⟩
  · omega
  · exact⟨g,rfl,hb,(Array.getElem?_eq_some_iff.1 hg).1⟩
theorem Ch.same {w w':World}{B e sz:Nat}{v:Value}{n:Nat}{cs:List Value}(h:Ch w B e sz v n cs)
    (hb:0<n→∀ k,v.ownBlock=some k→k<w.heap.size→w'.heap[k]?=w.heap[k]?) (h0:n=0→w.heap.size≤w'.heap.size∧∀ k,v.ownBlock=some k→k<w.heap.size→w'.heap[k]?=w.heap[k]?):Ch w' B e sz v n cs:=by
  rcases h with h | ⟨hl,g,cap,cur,rfl,hB,hg,r⟩
  · exact .inl h
  · have hlt:=(Array.getElem?_eq_some_iff.1 hg).1
    refine .inr ⟨hl,g,cap,cur,rfl,hB,?_,r⟩
    by_cases hn:0<n
    · rw[hb hn g rfl hlt];exact hg
    · rw[(h0 (by omega)).2 g rfl hlt];exact hg
theorem Ch.below {w w':World}{B e sz:Nat}{v:Value}{n:Nat}{cs:List Value}(h:Ch w B e sz v n cs)(hb:Below w.heap.size w w'):Ch w' B e sz v n cs :=
  h.same (fun _ k _ hk=>hb.block k hk) (fun _=>⟨hb.size,fun k _ hk=>hb.block k hk⟩)
theorem Ch.grown {w w':World}{B e sz:Nat}{v:Value}{n:Nat}{cs:List Value}{row:Option Nat}(h:Ch w B e sz v n cs)(hg:w.grownBy w' row)(hne:v.ownBlock=none∨v.ownBlock≠row):Ch w' B e sz v n cs :=
  h.same (fun _ k hk hlt=>hg.block k hlt (by rcases hne with h | h <;> simp_all)) (fun _=>⟨hg.size,fun k hk hlt=>hg.block k hlt (by rcases hne with h | h <;> simp_all)⟩)
def Du (w:World)(B e:Nat)(v:Value)(xs:List Int):Prop:=Ch w B e 1 v xs.length (xs.map (Value.int .i64))
theorem Du.ints {w:World}{B e:Nat}{v:Value}{xs:List Int}(h:Du w B e v xs):Ints w v xs:=Ch.toSl h
theorem Ch.store {P:Program}{t e bytes:Nat}{z:Value}(et:ET P t e 1 bytes z){w:World}{B:Nat}{v:Value}{n:Nat}{cs:List Value}(h:Ch w B e 1 v n cs)(hn:0<n) :
    ∃ ad:Nat→Addr,(∀ W (k:Nat),k<n→(Instr.indexAt t v (.int .i64 k)).run P W = .ok (.pointer (some (ad k))) W)∧(∀ k,k<n→w.cell? (ad k)=some (cs.getD k undef)) ∧
      (∀ k,k<n→w.frozen? (ad k)=false)∧(∀ k,B≤(ad k).block)∧(∀ k x,k<n→Ch (w.setCell (ad k) x) B e 1 v n (cs.set k x)∧w.grownBy (w.setCell (ad k) x) v.ownBlock):=by
  rcases h with⟨h,_⟩ | ⟨h0,g,cap,cur,rfl,hb,hg,hnc,hm,hs,ht⟩
  · omega
  · have hrow:w.ownsRow B e 1 (.slice (some ⟨g,0,none⟩) n cap) n cs:=⟨h0,.inr ⟨g,cap,cur,rfl,hb,hg,hnc,hm,hs,ht⟩⟩
    refine⟨fun k=>⟨g,k,none⟩,fun W k hk=>by simpa using run_index_slice et g 0 n cap k hk W,fun k hk=>?_,fun k _=>hrow.frozenAt k,fun _=>hb,fun k x hk=>⟨.of_row (hrow.stored k x).1,(hrow.stored k x).2⟩⟩
    rw[hrow.cellAt k (by omega)]
    have hk':k<cs.length:=by omega
    simp[List.getD,hk']
theorem Ch.at {w:World}{B e sz g n cap:Nat}{cs:List Value}(h:Ch w B e sz (.slice (some ⟨g,0,none⟩) n cap) n cs){j:Nat}(hj:j<n*sz) :
    w.cell? ⟨g,j,none⟩=some (cs.getD j undef)∧w.frozen? ⟨g,j,none⟩=false∧B≤g∧∀ x,Ch (w.setCell ⟨g,j,none⟩ x) B e sz (.slice (some ⟨g,0,none⟩) n cap) n (cs.set j x):=by
  rcases h with⟨h,_⟩ | ⟨h0,g',cap',cur,hv,hb,hg,hnc,hm,hs,ht⟩
  · subst h;omega
  · have hrow:w.ownsRow B e sz (.slice (some ⟨g,0,none⟩) n cap) n cs:=⟨h0,.inr ⟨g',cap',cur,hv,hb,hg,hnc,hm,hs,ht⟩⟩
    simp only[Value.slice.injEq,Option.some.injEq,Addr.mk.injEq,true_and,and_true] at hv
    refine⟨?_,hrow.frozenAt j,by omega,fun x => .of_row (hrow.stored j x).1⟩
    rw[hrow.cellAt j hj]
    have hk':j<cs.length:=by omega
    simp[List.getD,hk']
theorem Sl.form {w:World}{v:Value}{n sz:Nat}{cs:List Value}(h:Sl w v n sz cs):∃ ao cap,v = .slice ao n cap:=by
  obtain⟨_,ao,cap,h,_⟩:=h
  exact⟨ao,cap,h⟩
theorem Ch.form {w:World}{B e sz:Nat}{v:Value}{n:Nat}{cs:List Value}(h:Ch w B e sz v n cs):∃ ao cap,v = .slice ao n cap:=h.toSl.form
theorem Du.form {w:World}{B e:Nat}{v:Value}{xs:List Int}(h:Du w B e v xs):∃ ao cap,v = .slice ao xs.length cap:=Ch.form h
theorem Ch.setB {w:World}{B e sz:Nat}{v:Value}{n:Nat}{cs:List Value}(h:Ch w B e sz v n cs){a:Addr}{u:Value}(ha:a.block<B):Ch (w.setCell a u) B e sz v n cs:=by
  rcases h with h | ⟨h0,g,cap,cur,h1,h2,h3,r⟩
  · exact .inl h
  · exact .inr ⟨h0,g,cap,cur,h1,h2,by rw[Below.heap_setCell _ _ _ _ (by omega)];exact h3,r⟩
theorem Du.setB {w:World}{B e:Nat}{v:Value}{xs:List Int}(h:Du w B e v xs){a:Addr}{u:Value}(ha:a.block<B):Du (w.setCell a u) B e v xs:=Ch.setB h ha
theorem Du.mono {w:World}{B B' e:Nat}{v:Value}{xs:List Int}(h:Du w B e v xs)(hB:B'≤B):Du w B' e v xs:=Ch.mono h hB
theorem C8 {P:Program}{t e sz bytes:Nat}{z:Value}(et:ET P t e sz bytes z)(ty:TypeId)(base ao:Option Addr)(n cap c:Nat)(hn:n≤cap)(w:World) :
    (Builtin.append_ #[t,t] ty #[.slice base n cap,.slice ao 0 c]).run P w = .ok (.slice base n cap) w:=by
  obtain⟨i,hi,hz0,hz1,hz2⟩:=info_parts et.hi
  cases base <;> cases ao <;> simp[Builtin.append_,run_underlying et.ht,sizeOf,typeInfo,hi,Builtin.lenOf,Builtin.firstCells,loadCells,loadCellsFrom,storeCells,hn]
theorem DE {P:Program}{t e sz bytes:Nat}{z:Value}(et:ET P t e sz bytes z)(ty:TypeId){w:World}{B:Nat}{v:Value}{n:Nat}{cs:List Value}(h:Ch w B e sz v n cs)(hB:B≤w.heap.size)
    {vx:Value} {m:Nat} {news:List Value} (hx:Sl w vx m sz news) (h1:∀ u∈news,u.oneCell'=true) (hm:n+m≤maxLen) (hb:(n+m)*bytes≤140737488355328) :
    ∃ v' w',(Builtin.append_ #[t,t] ty #[v,vx]).run P w = .ok v' w'∧Ch w' B e sz v' (n+m) (cs++news)∧w.grownBy w' v.ownBlock:=by
  obtain⟨i,hi,hz0,hz1,hz2⟩:=info_parts et.hi
  by_cases hm0:m=0
  · subst hm0
    obtain⟨hlx,ao,cx,rfl,_⟩:=hx
    have hnews:news = []:=List.eq_nil_of_length_eq_zero (by omega)
    subst hnews
    obtain⟨base,cap,rfl⟩:=h.form
    have hnc:n≤cap:=by
      obtain⟨_,ao',cap',hv,hle,_⟩:=h.toSl
      simp only[Value.slice.injEq] at hv
      omega
    exact⟨_,_,C8 et ty base ao n cap cx hnc w,by simpa using h,World.grownBy.refl _ _⟩
  · obtain⟨hlx,ao,cx,rfl,_,_,_,hcx⟩:=hx
    obtain⟨b,o,rfl,hbl,hcell⟩:=hcx (by omega)
    have hnews:∀ j u,news[j]?=some u→w.cell? ((⟨b,o,none⟩:Addr).add j)=some u:=by
      intro j u hj
      have hjl:j<news.length:=(List.getElem?_eq_some_iff.1 hj).1
      rw[Addr.add_lit,hcell j (by omega)]
      simp[List.getD,hj]
    rcases h with⟨rfl,rfl,rfl⟩ | ⟨h0,g,cap,cur,rfl,hBg,hg,hnc,hcm,hs,ht⟩
    · obtain⟨v',w',hr,r1,r2,_⟩:=run_append_own (P:=P) w w.heap.size t ty e i z sz bytes et.ht hi hz0 hz1 hz2 et.hz et.hp (.slice none 0 0) 0 [] (World.ownsRow_nil w _ e sz) ⟨b,o,none⟩ m cx news hlx hnews h1 hm hb (Nat.le_refl _)
      exact⟨v',w',hr,(Ch.of_row r1).mono hB,r2⟩
    · obtain⟨v',w',hr,r1,r2,_⟩:=run_append_own (P:=P) w B t ty e i z sz bytes et.ht hi hz0 hz1 hz2 et.hz et.hp (.slice (some ⟨g,0,none⟩) n cap) n cs ⟨h0,.inr ⟨g,cap,cur,rfl,hBg,hg,hnc,hcm,hs,ht⟩⟩ ⟨b,o,none⟩ m cx news hlx hnews h1 hm hb hB
      exact⟨v',w',hr,Ch.of_row r1,r2⟩
theorem Kv {P:Program}{t e sz bytes:Nat}{z:Value}(et:ET P t e sz bytes z){w:World}{B:Nat}{v:Value}{n:Nat}{cs:List Value}(h:Ch w B e sz v n cs)(hB:B≤w.heap.size)
    {vx:Value} {m:Nat} {news:List Value} (hx:Sl w vx m sz news) (h1:∀ u∈news,u.oneCell'=true) (hm:n+m≤maxLen) (hb:(n+m)*bytes≤140737488355328)
    {ops:Array Oper} {rest:List Oper} {o:Oper} {a:Act} {Q:Exit→Act→World→Prop}
    (hg:o.guard=none) (s x:Operand) (hop:o.op=Op.call { callee:=Callee.builtin Builtin.append,args:=#[s,x],argTypes:=#[t,t] }) (hs:a.eval s=v) (hxv:a.eval x=vx)
    (hK:∀ v' w',Ch w' B e sz v' (n+m) (cs++news)→w.grownBy w' v.ownBlock→wpList P ops Q rest (a.put o.dst v') w') :
    wpList P ops Q (o::rest) a w:=by
  refine wpList_plain hg fun K hK'=>?_
  obtain⟨v',w',hrun,r1,r2⟩:=DE et o.type h hB hx h1 hm hb
  unfold Oper.wp
  simp[execOp,hop,resolve,invoke,builtin,hs,hxv,hrun,Result.andThen]
  exact hK' _ _ (hK v' w' r1 r2)
theorem Eu (xs:List Int):∀ u∈xs.map (Value.int .i64),u.oneCell'=true:=ints_oneCell _ _
theorem Ch.made0 (w:World)(e sz B:Nat)(hB:B≤w.heap.size):Ch (w.alloc (.cells #[] e)) B e sz (.slice (some ⟨w.heap.size,0,none⟩) 0 0) 0 [] :=
  .inr ⟨by simp,w.heap.size,0,#[],rfl,hB,heap_alloc_new w _,Nat.le_refl _,by simp[maxLen],by simp,by simp⟩
theorem Sl.lt {w:World}{v:Value}{n sz:Nat}{cs:List Value}(h:Sl w v n sz cs)(hn:0<n):∃ b,v.ownBlock=some b∧b<w.heap.size:=by
  obtain⟨_,ao,cap,rfl,_,_,_,h4⟩:=h
  obtain⟨b,o,rfl,hb,_⟩:=h4 hn
  exact⟨b,rfl,hb⟩
theorem Sl.apart {w w':World}{v v':Value}{n sz n' B e sz':Nat}{cs cs':List Value}(h:Sl w v n sz cs)(h':Ch w' B e sz' v' n' cs')(hB:w.heap.size≤B)(hn:0<n)(hn':0<n'):v.ownBlock≠v'.ownBlock:=by
  obtain⟨b,h1,h2⟩:=h.lt hn
  obtain⟨g,h3,h4,_⟩:=h'.lt hn'
  rw[h1,h3]
  intro e
  have:=Option.some.inj e
  omega
theorem World.grownBy.cells {w w':World}{row:Option Nat}(hg:w.grownBy w' row){g:Nat}(hlt:g<w.heap.size)(hne:row≠some g):∀ o,w'.cell? ⟨g,o,none⟩=w.cell? ⟨g,o,none⟩ :=
  fun o=>World.cell?_of_block (a:=⟨g,o,none⟩) (hg.block g hlt (fun e=>hne e.symm))
def Bx (w:World)(g e:Nat)(cs:List Value):Prop:=w.heap[g]?=some (.cells cs.toArray e (0,0))
theorem Bx.push (w:World)(e:Nat)(cs:List Value):Bx (w.alloc (.cells cs.toArray e)) w.heap.size e cs:=heap_alloc_new w _
theorem Bx.push' (w:World)(e g:Nat)(cs:List Value)(hg:g=w.heap.size):Bx (w.alloc (.cells cs.toArray e)) g e cs:=by subst hg;exact heap_alloc_new w _
theorem Bx.lt {w:World}{g e:Nat}{cs:List Value}(h:Bx w g e cs):g<w.heap.size:=(Array.getElem?_eq_some_iff.1 h).1
theorem Bx.alloc {w:World}{g e:Nat}{cs:List Value}(h:Bx w g e cs)(o:Obj):Bx (w.alloc o) g e cs:=(heap_alloc_old w o h.lt).trans h
theorem Bx.drew {w:World}{g e:Nat}{cs:List Value}(h:Bx w g e cs):Bx w.drew g e cs:=h
theorem Bx.below {w w':World}{B g e:Nat}{cs:List Value}(h:Bx w g e cs)(hb:Below B w w')(hg:g<B):Bx w' g e cs:=(hb.block g hg).trans h
theorem Bx.grown {w w':World}{g e:Nat}{cs:List Value}{row:Option Nat}(h:Bx w g e cs)(hg:w.grownBy w' row)(hne:row≠some g):Bx w' g e cs:=(hg.block g h.lt (fun e=>hne e.symm)).trans h
theorem Bx.cell {w:World}{g e:Nat}{cs:List Value}(h:Bx w g e cs)(i:Nat):w.cell? ⟨g,i,none⟩=cs[i]?:=by
  unfold Bx at h
  simp[World.cell?,h]
theorem Bx.free {w:World}{g e:Nat}{cs:List Value}(h:Bx w g e cs)(i:Nat):w.frozen? ⟨g,i,none⟩=false:=by
  unfold Bx at h
  simp[World.frozen?,h]
theorem Bx.cells4 {w:World}{g e:Nat}{a b c d:Value}(h:Bx w g e [a,b,c,d]) :
    w.cell? ⟨g,0,none⟩=some a∧w.cell? ⟨g,1,none⟩=some b∧w.cell? ⟨g,2,none⟩=some c∧w.cell? ⟨g,3,none⟩=some d:=⟨h.cell 0,h.cell 1,h.cell 2,h.cell 3⟩
theorem Bx.set {w:World}{g e:Nat}{cs:List Value}(h:Bx w g e cs)(i:Nat)(v:Value):Bx (w.setCell ⟨g,i,none⟩ v) g e (cs.set i v):=by
  unfold Bx at h ⊢
  have:=heap_setCell_same w g i cs.toArray e v h
  rw[this]
  simp
theorem Ch.blk {w:World}{B e sz:Nat}{v:Value}{n:Nat}{cs:List Value}(h:Ch w B e sz v n cs):v.ownBlock=none∨∃ g,v.ownBlock=some g∧B≤g∧g<w.heap.size:=by
  rcases h with⟨_,_,rfl⟩ | ⟨h0,g,cap,cur,rfl,hb,hg,_⟩
  · exact .inl rfl
  · exact .inr ⟨g,rfl,hb,(Array.getElem?_eq_some_iff.1 hg).1⟩
theorem Ch.ne {w:World}{B e sz:Nat}{v:Value}{n:Nat}{cs:List Value}(h:Ch w B e sz v n cs){g:Nat}(hg:g<B∨w.heap.size≤g):v.ownBlock≠some g:=by
  rcases h.blk with h | ⟨g',h,h1,h2⟩ <;> rw[h]
  · simp
  · intro e
    have:=Option.some.inj e
    omega
theorem Du.ne {w:World}{B e:Nat}{v:Value}{xs:List Int}(h:Du w B e v xs){g:Nat}(hg:g<B∨w.heap.size≤g):v.ownBlock≠some g:=Ch.ne h hg
theorem Xf:ET Tryz.prog 22 3 1 8 (.int .i64 0):=⟨Tryz.underlying22,by kernel_rfl,rfl,by omega⟩
theorem AL {a b:Bool}(h:a=b):Ending.returned (.bool a) = .returned (.bool b):=by rw[h]
theorem Ep {a b:Int}(h:a=b):Ending.returned (.int .i64 a) = .returned (.int .i64 b):=by rw[h]
structure Mat where
  p:Int
  r:Int
  c:Int
  d:List Int
  deriving DecidableEq
def EP (w:World)(v:Value)(m:Mat):Prop:=∃ dv,v = .agg #[.int .i64 m.p,.int .i64 m.r,.int .i64 m.c,dv]∧Ints w dv m.d
def FQ (w:World)(B:Nat)(v:Value)(m:Mat):Prop:=∃ dv,v = .agg #[.int .i64 m.p,.int .i64 m.r,.int .i64 m.c,dv]∧Du w B 3 dv m.d
theorem EP.below {w w':World}{v:Value}{m:Mat}(h:EP w v m)(hb:Below w.heap.size w w'):EP w' v m:=by
  obtain⟨dv,h1,h2⟩:=h
  exact⟨dv,h1,Sl.below h2 hb⟩
theorem FQ.below {w w':World}{B:Nat}{v:Value}{m:Mat}(h:FQ w B v m)(hb:Below w.heap.size w w'):FQ w' B v m:=by
  obtain⟨dv,h1,h2⟩:=h
  exact⟨dv,h1,Ch.below h2 hb⟩
theorem Below.allocs {w:World}(o:Obj):Below w.heap.size w (w.alloc o):=(Below.refl _ _).alloc (Nat.le_refl _) o
theorem dH {W w1:World}(hb:Below W.heap.size W w1):(∀ b o,b<W.heap.size→w1.cell? ⟨b,o,none⟩=W.cell? ⟨b,o,none⟩)∧(∀ b o,b<W.heap.size→w1.frozen? ⟨b,o,none⟩=W.frozen? ⟨b,o,none⟩) :=
  ⟨fun b o h=>hb.cell (p:=⟨b,o,none⟩) h,fun b o h=>hb.frozen (p:=⟨b,o,none⟩) h⟩
end Go.Proofs.YtbmnnbglipkidaaGreatDoor
