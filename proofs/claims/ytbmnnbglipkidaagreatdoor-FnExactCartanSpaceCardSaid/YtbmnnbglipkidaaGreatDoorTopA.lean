/-
  How the arguments of this seat's laws are opened: from the reading of an argument as data to the words of the base (Ints, Tms, IsMat).
-/
import Derived.Test.YtbmnnbglipkidaaGreatDoorZ19
import Derived.ProofKit
import Derived.SizedLaws
import Derived.Deep.Slices
import Derived.Deep.Fields
import Derived.ChangeSame
import Derived.Lib.SmallJoins
import Derived.Test.YtbmnnbglipkidaaGreatDoorZ24
import Derived.Test.YtbmnnbglipkidaaGreatDoorZ12
import Derived.Test.YtbmnnbglipkidaaGreatDoorTie
import Derived.Test.YtbmnnbglipkidaaGreatDoorCards
import Derived.ChangeMaps5
import Derived.LaidMore
import Derived.Lay
import Derived.SevenTiedAt
import Derived.Stop.Joined
import Derived.Test.YtbmnnbglipkidaaGreatDoorZ16
import Derived.Lib.LaidTab
import Derived.Test.YtbmnnbglipkidaaGreatDoorOps2
namespace Go.Proofs.YtbmnnbglipkidaaGreatDoor
set_option linter.unusedVariables false
set_option linter.unusedSimpArgs false
open Go.ChangeShapes Go.WideShapes Go.ChangeAt Go.RowKit Go.Deep Go.Joins
theorem Tryz.own:ownKnob Tryz.prog.godebug=none:=by kernel_rfl
theorem Tryz.laidOut:laidOutB Tryz.prog=true:=by kernel_rfl
section
variable {H:Type}{enc:TypeId × Value→H}{P:Program}{w:World}
theorem ints_of_trod {t e:TypeId}(ht:P.underlying t=some (.slice e))(he:P.underlying e=some (.int .i64))(hc:P.cellsOf e=1){fuel:Nat}{v:Value}{x:DataW H × List MemPlace}
    (h:DataW.trod enc P w 0 (fun _=>true) true fuel t [v]=some x):∃ xs,Ints w v xs∧∀ n∈xs,(Lit.int .i64 n).wf=true:=by
  rcases open_ints ht he hc h with⟨hcs,_⟩ | ⟨a,len,cap,zs,hcs,_,hl,hm,hz,_,hcell,hwz⟩
  · simp at hcs
    subst hcs
    exact⟨[],Sl.nil w 1,by simp⟩
  · simp at hcs
    subst hcs
    simp only[if_true] at hz
    have hlen:(zs.take len).length=len:=by simp;omega
    refine⟨zs.take len,⟨by simp,some a,cap,by rw[hlen],by omega,hm,(fun h=>by cases h),fun hpos=>?_⟩,fun n hn=>hwz n (List.mem_of_mem_take hn)⟩
    rw[hlen] at hpos
    obtain⟨b,off,spot⟩:=a
    have hspot:spot=none:=by simpa [Addr.add] using World.cell?_spot (hcell 0 (by omega))
    subst hspot
    refine⟨b,off,rfl,by have:=World.block_lt_of_cell? w _ (hcell 0 (by omega));simpa [Addr.add] using this,fun k hk=>?_⟩
    rw[hlen,Nat.mul_one] at hk
    rw[← add_plain,hcell k (by omega)]
    simp[List.getD,hk,show k<zs.length by omega]
end
theorem isS_of {w:World}{v:Value}{xs:List Int}(h:Ints w v xs):IsS v:=by
  obtain⟨_,ao,cap,rfl,_⟩:=h
  exact⟨_,_,_,rfl⟩
theorem len_of {w:World}{v:Value}{xs:List Int}(h:Ints w v xs):xs.length≤9223372036854775807:=by
  have:=Sl.size_le h
  simpa [maxLen] using this
section
variable {H:Type}{enc:TypeId × Value→H}{P:Program}{w:World}
end
theorem Tryz.cellsInt:Tryz.prog.cellsOf 3=1:=by kernel_rfl
theorem Tryz.cellsCartan:Tryz.prog.cellsOf 24=2:=by kernel_rfl
set_option maxRecDepth 100000 in
theorem openCartan {H:Type}{enc:TypeId × Value→H}{w:World}{base:Nat}{v:Value}{d:DataW H}{p:List MemPlace}
    (hv:Value.okWide Tryz.prog w .any base 24 v) (h:DataW.Trod enc Tryz.prog w 0 (fun _=>true) true 24 v d p):∃ k0 v1 xs,v = .agg #[.int .i64 k0,v1]∧Ints w v1 xs∧((Lit.int .i64 k0).wf=true∧∀ n∈xs,(Lit.int .i64 n).wf=true):=by
  obtain⟨v0,v1,y0,y1,n,rfl,_,_,h0,h1⟩:=open_agg2 Tryz.underlying24 (by kernel_rfl) Tryz.cellsCartan hv h
  obtain⟨k0,e0,hw0⟩:=DataW.trod_int Tryz.underlying3 h0
  obtain⟨xs,hI,hw⟩:=ints_of_trod Tryz.underlying22 Tryz.underlying3 Tryz.cellsInt h1
  simp only[List.cons.injEq,and_true] at e0
  subst e0
  exact⟨k0,v1,xs,rfl,hI,hw0.2,hw⟩
theorem ent_cell {W0:World}{a:Addr}{v:Value}(h:W0.cell? a=some v):Ent [frozen W0] fun w=>w.cell? a=some v:=fun W w hs=>by
  have hf:=(frozen_blocks hs).2
  rw[← h]
  have hlt:a.block<W0.heap.size:=by
    rcases Nat.lt_or_ge a.block W0.heap.size with h1 | h1
    · exact h1
    · have hn:W0.heap[a.block]?=none:=by simp[h1]
      simp[World.cell?,hn] at h
  simp only[World.cell?,hf a.block hlt]
theorem ent_maxLen {W0:World}(h:W0.ShapedOpen Tryz.prog):Ent [frozen W0] fun w=>∃ m,w.cell? ⟨Tryz.l146_ren.g 1,0,none⟩=some (.int .i64 m):=fun W w hs=>by
  obtain⟨m,hm⟩:=Tryz.l146.s1_3 W0 h
  exact⟨m,ent_cell hm W w hs⟩
theorem handed_laid {C:Checked}{os:Os}{f:FuncId}{fn:Func}{s:ChangeSpec}{apart:Bool}{X:World→Prop}(hXw:∀ w w':World,w.heap=w'.heap→X w→X w'){H:Type}{enc:TypeId × Value→H}
    (own:ownKnob C.prog.godebug=none) (started:os.Started) (noInit:C.prog.inits.idxOf? f=none) (hfn:C.prog.funcs[f]?=some fn)
    (witness:∃ (w:World) (tape:Tape) (i:Input),w.os=os∧(w.forCall tape i).Shaped C.prog∧i.vars = []∧Input.okWide C.prog (w.forCall tape i) .any w.heap.size f i ∧
      ((s.pre enc C.prog fn [] apart (w.forCall tape i).memory i.args∧X (w.forCall tape i).memory)∧sizedMet enc C.prog fn (OpenSpec.ofChange s) apart (w.forCall tape i).memory i.args)∧({}:Assume).holds C.prog (lone (Frame.enter C.prog f i.args .normal) [] (w.forCall tape i)))
    (contract:∀ (W:World) (base:Nat) (args:Array Value) (ds gs:List (DataW H)) (before:List MemPlace),(∀ (j:Nat) t v,fn.params[j]?=some t→args[j]?=some v→Value.okWide C.prog W .any base t v) →
      DataW.Whole enc C.prog fn.params.toList s.vars apart W args.toList ds gs before→W.ShapedOpen C.prog→X W→Calls C.prog f args W fun e W'=>∃ v,e = .returned v∧s.post enc C.prog fn apart true false false W args v W') :
    ReturnsInHanded {} C os f .any (fun w args=>(s.pre enc C.prog fn [] apart w args∧X w)∧sizedMet enc C.prog fn (OpenSpec.ofChange s) apart w args) (s.post enc C.prog fn apart true false false) :=
  returnsInHanded_of_calls own started noInit witness fun w tape i _ hsh _ hok hpre _=>by
    obtain⟨_,_,_,fn',hfn',_,_,_,_,hval⟩:=hok
    cases Option.some.inj (hfn'.symm.trans hfn)
    obtain⟨⟨⟨ds,gs,before,hw,_⟩,hx⟩,_⟩:=hpre
    refine(contract _ _ i.args ds gs before hval (DataW.Whole.of_heap (w':=w.forCall tape i) (by rfl) hw) hsh (hXw _ _ (by rfl) hx)).mono ?_
    rintro _ W' ⟨v,rfl,hp⟩
    exact ChangeSpec.post_blind hp
theorem tab_of_laid {P:Program}{W:World}{name:String}{k:IntKind}{zs:List Int}{a b:String × DataW Unit}{rest:List (String × DataW Unit)}{g:Nat}{t e:TypeId}{n:Nat}
    (hg:P.globalNamed name=some g) (hty:(P.globals[g]?).map (·.type)=some t) (ht:P.underlying t=some (.array n e)) (he:P.underlying e=some (.int k)) (hce:P.cellsOf e=1) (hct:P.cellsOf t=n)
    (h:laidMet P (a::b::(name,Lib.tabData k zs)::rest) W):Lib.TabIs P W name k zs:=by
  obtain⟨ps,h1,_⟩:=h
  obtain⟨_,_,_,_,_,_,_,_,_,_,h2,_⟩:=h1
  obtain⟨_,_,_,_,_,_,_,_,_,_,h3,_⟩:=h2
  obtain⟨g',t',cs,fuel,p,q,hg',ht',hvar,hd,_,_⟩:=h3
  obtain rfl:=Option.some.inj (hg.symm.trans hg')
  obtain rfl:=Option.some.inj (hty.symm.trans ht')
  unfold Lib.TabIs
  rw[hvar,← Lib.cells_of_tab ht he hce hct hd]
theorem ent_tab {P:Program}{W0:World}{n:String}{g:Nat}{k:IntKind}{zs:List Int}(hg:P.globalNamed n=some g)(h:Lib.TabIs P W0 n k zs):Ent [frozen W0] fun w=>Lib.TabIs P w n k zs:=fun W w hs=>by
  have hf:=(frozen_blocks hs).2
  unfold Lib.TabIs World.var? at h ⊢
  rw[hg] at h ⊢
  simp only[Option.bind_some] at h ⊢
  have hlt:g<W0.heap.size:=by
    rcases Nat.lt_or_ge g W0.heap.size with h' | h'
    · exact h'
    · rw[Array.getElem?_eq_none h'] at h;cases h
  rw[hf g hlt]
  exact h
theorem gPow:Tryz.prog.globalNamed "internal/strconv.uint64pow10" = some 1:=by kernel_rfl
theorem gPowT:(Tryz.prog.globals[1]?).map (·.type)=some 222:=by kernel_rfl
theorem ent_pow {W0:World}{rest:List (String × DataW Unit)}{a b:String × DataW Unit}(h:laidMet Tryz.prog (a::b::("internal/strconv.uint64pow10",Lib.tabData .u64 Lib.pow10Tab)::rest) W0):Ent [frozen W0] Pow10 :=
  ent_tab gPow (tab_of_laid gPow gPowT Tryz.underlying222 Tryz.underlying191 (by kernel_rfl) (by kernel_rfl) h)
section
variable {H:Type}{enc:TypeId × Value→H}{P:Program}{w:World}
end
end Go.Proofs.YtbmnnbglipkidaaGreatDoor
