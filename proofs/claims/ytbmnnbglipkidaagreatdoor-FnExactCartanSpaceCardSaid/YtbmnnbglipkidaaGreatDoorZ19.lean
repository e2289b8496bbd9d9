/-
  The base of this seat's proofs: what it means that a slice value reads as a list (Sl, Ints), that the call owns it (Own), how these facts travel from world to world, and the laws for make and append in these words.
-/
import Derived.Test.YtbmnnbglipkidaaGreatDoorRows
import Derived.WalkKit
import Derived.WalkSpells
import Derived.WalkLawsBesides
import Derived.Deep.QuietTactic
import Derived.BigQuiet
import Derived.Deep.RegionHeld3
import Derived.Deep.DeepCutAuto
import Derived.StillTailTactics
namespace Go.Proofs.YtbmnnbglipkidaaGreatDoor
set_option linter.unusedVariables false
set_option linter.unusedSimpArgs false
open Go.RowKit
theorem hid {p:Prop}(h:p):Hid p:=h
structure ET (P:Program)(t e sz bytes:Nat)(z:Value):Prop where
  ht:P.underlying t=some (.slice e)
  hi:(P.info? e).map (fun i=>(i.zero,i.size,i.bytes))=some (some z,sz,bytes)
  hz:z.cells.size=sz
  hp:0<sz
def Sl (w:World)(v:Value)(n sz:Nat)(cs:List Value):Prop :=
  cs.length=n*sz∧∃ ao cap,v = .slice ao n cap∧n≤cap∧cap≤maxLen∧(ao=none→cap=0) ∧
    (0<n→∃ b o,ao=some ⟨b,o,none⟩∧b<w.heap.size∧∀ k,k<n*sz→w.cell? ⟨b,o+k,none⟩=some (cs.getD k undef))
def Ints (w:World)(v:Value)(xs:List Int):Prop:=Sl w v xs.length 1 (xs.map (Value.int .i64))
theorem Sl.nil (w:World)(sz:Nat):Sl w (.slice none 0 0) 0 sz []:=⟨by simp,none,0,rfl,by omega,by simp[maxLen],fun _=>rfl,by omega⟩
theorem Sl.size_le {w:World}{v:Value}{n sz:Nat}{cs:List Value}(h:Sl w v n sz cs):n≤maxLen:=by
  obtain⟨_,ao,cap,_,h1,h2,_⟩:=h
  omega
theorem Sl.same {w w':World}{v:Value}{n sz:Nat}{cs:List Value}(h:Sl w v n sz cs)(hs:w.heap.size≤w'.heap.size)
    (hb:0<n→∀ k,v.ownBlock=some k→k<w.heap.size→w'.heap[k]?=w.heap[k]?):Sl w' v n sz cs:=by
  obtain⟨h0,ao,cap,rfl,h1,h2,h3,h4⟩:=h
  refine⟨h0,ao,cap,rfl,h1,h2,h3,fun hn=>?_⟩
  obtain⟨b,o,rfl,hlt,hc⟩:=h4 hn
  refine⟨b,o,rfl,by omega,fun k hk=>?_⟩
  rw[World.cell?_of_block (hb hn b rfl hlt)]
  exact hc k hk
theorem Sl.len_run {P:Program}{t e sz bytes:Nat}{z:Value}(et:ET P t e sz bytes z){w:World}{v:Value}{n s:Nat}{cs:List Value}(h:Sl w v n s cs)(ty:TypeId)(W:World) :
    (Builtin.len_ #[t] ty #[v]).run P W = .ok (.int .i64 n) W:=by
  obtain⟨_,ao,cap,rfl,_⟩:=h
  simp[Builtin.len_,run_underlying et.ht,goInt]
theorem run_index_slice {P:Program}{t e sz bytes:Nat}{z:Value}(et:ET P t e sz bytes z)(b o n cap:Nat)(k:Nat)(hk:k<n)(W:World) :
    (Instr.indexAt t (.slice (some ⟨b,o,none⟩) n cap) (.int .i64 k)).run P W = .ok (.pointer (some ⟨b,o+k*sz,none⟩)) W:=by
  obtain⟨i,hi,hz0,hz1,hz2⟩:=info_parts et.hi
  have hadd:∀ m:Nat,(⟨b,o,none⟩:Addr).add m=⟨b,o+m,none⟩:=fun m=>by unfold Addr.add;split <;> simp_all
  simp[Instr.indexAt,run_underlying et.ht,asIntOf,sizeOf,typeInfo,hi,hz1,hadd,hk]
theorem Ints.facts {P:Program}{t e bytes:Nat}{z:Value}(et:ET P t e 1 bytes z){w:World}{v:Value}{xs:List Int}(h:Ints w v xs) :
    ∃ ad:Nat→Addr,(∀ ty W,(Builtin.len_ #[t] ty #[v]).run P W = .ok (.int .i64 xs.length) W) ∧
      (∀ W (k:Nat),k<xs.length→(Instr.indexAt t v (.int .i64 k)).run P W = .ok (.pointer (some (ad k))) W) ∧
      (∀ k,k<xs.length→w.cell? (ad k)=some (.int .i64 (xs.getD k 0)))∧(∀ k,k<xs.length→(ad k).block<w.heap.size):=by
  have hl:=fun ty W=>Sl.len_run et h ty W
  obtain⟨_,ao,cap,rfl,h1,h2,h3,h4⟩:=h
  by_cases hn:0<xs.length
  · obtain⟨b,o,rfl,hb,hc⟩:=h4 hn
    refine⟨fun k=>⟨b,o+k,none⟩,hl,fun W k hk=>by simpa using run_index_slice et b o xs.length cap k hk W,fun k hk=>?_,fun _ _=>hb⟩
    rw[hc k (by omega)]
    simp[List.getD,hk]
  · exact⟨fun _=>⟨0,0,none⟩,hl,fun W k hk=>by omega,fun k hk=>by omega,fun k hk=>by omega⟩
def Own (w:World)(B e sz:Nat)(v:Value)(n:Nat)(cs:List Value):Prop :=
  (n=0∧cs = []∧v = .slice none 0 0)∨(cs.length=n*sz ∧
    ∃ g cap cur,v = .slice (some ⟨g,0,none⟩) n cap∧B≤g∧w.heap[g]?=some (.cells cur e (0,0))∧n≤cap∧cap≤maxLen∧cur.size=cap*sz∧cur.toList.take (n*sz)=cs)
theorem Own.nil (w:World)(B e sz:Nat):Own w B e sz (.slice none 0 0) 0 [] := .inl ⟨rfl,rfl,rfl⟩
theorem Own.of_row {w:World}{B e sz:Nat}{v:Value}{n:Nat}{cs:List Value}(h:w.ownsRow B e sz v n cs):Own w B e sz v n cs:=by
  rcases h with⟨h0,⟨rfl,rfl⟩ | h⟩
  · exact .inl ⟨rfl,by simpa using h0,rfl⟩
  · exact .inr ⟨h0,h⟩
theorem Own.mono {w:World}{B B' e sz:Nat}{v:Value}{n:Nat}{cs:List Value}(h:Own w B e sz v n cs)(hB:B'≤B):Own w B' e sz v n cs:=by
  rcases h with h | ⟨h0,g,cap,cur,h1,h2,r⟩
  · exact .inl h
  · exact .inr ⟨h0,g,cap,cur,h1,by omega,r⟩
theorem Own.sl {w:World}{B e sz:Nat}{v:Value}{n:Nat}{cs:List Value}(h:Own w B e sz v n cs):n=0∧cs = []∧v = .slice none 0 0∨Sl w v n sz cs:=by
  rcases h with h | ⟨h0,g,cap,cur,rfl,hb,hg,hn,hm,hs,ht⟩
  · exact .inl h
  · refine .inr ⟨h0,_,cap,rfl,hn,hm,(fun h=>by cases h),fun _=>⟨g,0,rfl,(Array.getElem?_eq_some_iff.1 hg).1,fun k hk=>?_⟩⟩
    have hk':k<cs.length:=by omega
    rw[cell_of_row w g (0+k) cur e (0,0) hg,← ht]
    simp only[Nat.zero_add]
    have hlen:n*sz≤cap*sz:=Nat.mul_le_mul_right _ hn
    rw[Array.getElem?_eq_getElem (by omega)]
    simp[List.getD,hk]
    rw[Array.getElem?_eq_getElem (by omega)]
    rfl
theorem Sl.empty (w:World)(sz:Nat)(ao:Option Addr):Sl w (.slice ao 0 0) 0 sz []:=⟨by simp,ao,0,rfl,by omega,by simp[maxLen],fun _=>rfl,by omega⟩
theorem Own.toSl {w:World}{B e sz:Nat}{v:Value}{n:Nat}{cs:List Value}(h:Own w B e sz v n cs):Sl w v n sz cs:=by
  rcases h.sl with⟨rfl,rfl,rfl⟩ | h
  · exact Sl.empty w sz none
  · exact h
theorem Own.lt {w:World}{B e sz:Nat}{v:Value}{n:Nat}{cs:List Value}(h:Own w B e sz v n cs)(hn:0<n):∃ g,v.ownBlock=some g∧B≤g∧g<w.heap.size:=by
  rcases h with⟨h,_⟩ | ⟨h0,g,cap,cur,rfl,hb,hg,_⟩
  · omega
  · exact⟨g,rfl,hb,(Array.getElem?_eq_some_iff.1 hg).1⟩
def OwnI (w:World)(B e:Nat)(v:Value)(xs:List Int):Prop:=Own w B e 1 v xs.length (xs.map (Value.int .i64))
theorem OwnI.ints {w:World}{B e:Nat}{v:Value}{xs:List Int}(h:OwnI w B e v xs):Ints w v xs:=Own.toSl h
theorem Sl.form {w:World}{v:Value}{n sz:Nat}{cs:List Value}(h:Sl w v n sz cs):∃ ao cap,v = .slice ao n cap:=by
  obtain⟨_,ao,cap,h,_⟩:=h
  exact⟨ao,cap,h⟩
theorem Own.form {w:World}{B e sz:Nat}{v:Value}{n:Nat}{cs:List Value}(h:Own w B e sz v n cs):∃ ao cap,v = .slice ao n cap:=h.toSl.form
theorem run_append_none {P:Program}{t e sz bytes:Nat}{z:Value}(et:ET P t e sz bytes z)(ty:TypeId)(base ao:Option Addr)(n cap c:Nat)(hn:n≤cap)(w:World) :
    (Builtin.append_ #[t,t] ty #[.slice base n cap,.slice ao 0 c]).run P w = .ok (.slice base n cap) w:=by
  obtain⟨i,hi,hz0,hz1,hz2⟩:=info_parts et.hi
  cases base <;> cases ao <;> simp[Builtin.append_,run_underlying et.ht,sizeOf,typeInfo,hi,Builtin.lenOf,Builtin.firstCells,loadCells,loadCellsFrom,storeCells,hn]
theorem run_append_any {P:Program}{t e sz bytes:Nat}{z:Value}(et:ET P t e sz bytes z)(ty:TypeId){w:World}{B:Nat}{v:Value}{n:Nat}{cs:List Value}(h:Own w B e sz v n cs)(hB:B≤w.heap.size)
    {vx:Value} {m:Nat} {news:List Value} (hx:Sl w vx m sz news) (h1:∀ u∈news,u.oneCell'=true) (hm:n+m≤maxLen) (hb:(n+m)*bytes≤140737488355328) :
    ∃ v' w',(Builtin.append_ #[t,t] ty #[v,vx]).run P w = .ok v' w'∧Own w' B e sz v' (n+m) (cs++news)∧w.grownBy w' v.ownBlock:=by
  obtain⟨i,hi,hz0,hz1,hz2⟩:=info_parts et.hi
  by_cases hm0:m=0
  · subst hm0
    obtain⟨hlx,ao,cx,rfl,_⟩:=hx
    have hnews:news = []:=List.eq_nil_of_length_eq_zero (by omega)
    subst hnews
    obtain⟨base,cap,rfl⟩:=h.form
    have hnc:n≤cap:=by
      obtain⟨_,ao',cap',hv,hle,_⟩:=h.toSl
      simp only[Value.slice.injEq] at hv
      omega
    exact⟨_,_,run_append_none et ty base ao n cap cx hnc w,by simpa using h,World.grownBy.refl _ _⟩
  · obtain⟨hlx,ao,cx,rfl,_,_,_,hcx⟩:=hx
    obtain⟨b,o,rfl,hbl,hcell⟩:=hcx (by omega)
    have hnews:∀ j u,news[j]?=some u→w.cell? ((⟨b,o,none⟩:Addr).add j)=some u:=by
      intro j u hj
      have hjl:j<news.length:=(List.getElem?_eq_some_iff.1 hj).1
      rw[Addr.add_lit,hcell j (by omega)]
      simp[List.getD,hj]
    rcases h with⟨rfl,rfl,rfl⟩ | ⟨h0,g,cap,cur,rfl,hBg,hg,hnc,hcm,hs,ht⟩
    · obtain⟨v',w',hr,r1,r2,_⟩:=run_append_own (P:=P) w w.heap.size t ty e i z sz bytes et.ht hi hz0 hz1 hz2 et.hz et.hp (.slice none 0 0) 0 [] (World.ownsRow_nil w _ e sz) ⟨b,o,none⟩ m cx news hlx hnews h1 hm hb (Nat.le_refl _)
      exact⟨v',w',hr,(Own.of_row r1).mono hB,r2⟩
    · obtain⟨v',w',hr,r1,r2,_⟩:=run_append_own (P:=P) w B t ty e i z sz bytes et.ht hi hz0 hz1 hz2 et.hz et.hp (.slice (some ⟨g,0,none⟩) n cap) n cs ⟨h0,.inr ⟨g,cap,cur,rfl,hBg,hg,hnc,hcm,hs,ht⟩⟩ ⟨b,o,none⟩ m cx news hlx hnews h1 hm hb hB
      exact⟨v',w',hr,Own.of_row r1,r2⟩
theorem oneCell_ints (xs:List Int):∀ u∈xs.map (Value.int .i64),u.oneCell'=true:=ints_oneCell _ _
theorem Sl.lt {w:World}{v:Value}{n sz:Nat}{cs:List Value}(h:Sl w v n sz cs)(hn:0<n):∃ b,v.ownBlock=some b∧b<w.heap.size:=by
  obtain⟨_,ao,cap,rfl,_,_,_,h4⟩:=h
  obtain⟨b,o,rfl,hb,_⟩:=h4 hn
  exact⟨b,rfl,hb⟩
theorem World.grownBy.cells {w w':World}{row:Option Nat}(hg:w.grownBy w' row){g:Nat}(hlt:g<w.heap.size)(hne:row≠some g):∀ o,w'.cell? ⟨g,o,none⟩=w.cell? ⟨g,o,none⟩ :=
  fun o=>World.cell?_of_block (a:=⟨g,o,none⟩) (hg.block g hlt (fun e=>hne e.symm))
def Bx (w:World)(g e:Nat)(cs:List Value):Prop:=w.heap[g]?=some (.cells cs.toArray e (0,0))
theorem Bx.push (w:World)(e:Nat)(cs:List Value):Bx (w.alloc (.cells cs.toArray e)) w.heap.size e cs:=heap_alloc_new w _
theorem Bx.lt {w:World}{g e:Nat}{cs:List Value}(h:Bx w g e cs):g<w.heap.size:=(Array.getElem?_eq_some_iff.1 h).1
theorem Bx.alloc {w:World}{g e:Nat}{cs:List Value}(h:Bx w g e cs)(o:Obj):Bx (w.alloc o) g e cs:=(heap_alloc_old w o h.lt).trans h
theorem Bx.cell {w:World}{g e:Nat}{cs:List Value}(h:Bx w g e cs)(i:Nat):w.cell? ⟨g,i,none⟩=cs[i]?:=by
  unfold Bx at h
  simp[World.cell?,h]
theorem Bx.free {w:World}{g e:Nat}{cs:List Value}(h:Bx w g e cs)(i:Nat):w.frozen? ⟨g,i,none⟩=false:=by
  unfold Bx at h
  simp[World.frozen?,h]
theorem Bx.set {w:World}{g e:Nat}{cs:List Value}(h:Bx w g e cs)(i:Nat)(v:Value):Bx (w.setCell ⟨g,i,none⟩ v) g e (cs.set i v):=by
  unfold Bx at h ⊢
  have:=heap_setCell_same w g i cs.toArray e v h
  rw[this]
  simp
theorem Own.blk {w:World}{B e sz:Nat}{v:Value}{n:Nat}{cs:List Value}(h:Own w B e sz v n cs):v.ownBlock=none∨∃ g,v.ownBlock=some g∧B≤g∧g<w.heap.size:=by
  rcases h with⟨_,_,rfl⟩ | ⟨h0,g,cap,cur,rfl,hb,hg,_⟩
  · exact .inl rfl
  · exact .inr ⟨g,rfl,hb,(Array.getElem?_eq_some_iff.1 hg).1⟩
theorem Own.ne {w:World}{B e sz:Nat}{v:Value}{n:Nat}{cs:List Value}(h:Own w B e sz v n cs){g:Nat}(hg:g<B∨w.heap.size≤g):v.ownBlock≠some g:=by
  rcases h.blk with h | ⟨g',h,h1,h2⟩ <;> rw[h]
  · simp
  · intro e
    have:=Option.some.inj e
    omega
theorem OwnI.ne {w:World}{B e:Nat}{v:Value}{xs:List Int}(h:OwnI w B e v xs){g:Nat}(hg:g<B∨w.heap.size≤g):v.ownBlock≠some g:=Own.ne h hg
end Go.Proofs.YtbmnnbglipkidaaGreatDoor
namespace Go.Proofs.YtbmnnbglipkidaaGreatDoor
set_option linter.unusedVariables false
set_option linter.unusedSimpArgs false
open Go.RowKit
theorem etI:ET Tryz.prog 22 3 1 8 (.int .i64 0):=⟨Tryz.underlying22,by kernel_rfl,rfl,by omega⟩
theorem ret_bool {a b:Bool}(h:a=b):Ending.returned (.bool a) = .returned (.bool b):=by rw[h]
theorem ret_int {a b:Int}(h:a=b):Ending.returned (.int .i64 a) = .returned (.int .i64 b):=by rw[h]
end Go.Proofs.YtbmnnbglipkidaaGreatDoor
namespace Go.Proofs.YtbmnnbglipkidaaGreatDoor
set_option linter.unusedVariables false
set_option linter.unusedSimpArgs false
open Go.RowKit
end Go.Proofs.YtbmnnbglipkidaaGreatDoor
