/-
  FnExactReflectionMap: the statement.
-/
import Derived.Test.YtbmnnbglipkidaaGreatDoorZ55
namespace Go.Proofs.YtbmnnbglipkidaaGreatDoor
set_option linter.unusedVariables false
set_option linter.unusedSimpArgs false
open Go.ChangeShapes Go.WideShapes Go.ChangeAt Go.RowKit Go.ChangeMaps
set_option maxRecDepth 100000 in
theorem Fa (os:Os)(started:os.Started)(H:Type)(enc:TypeId × Value→H) :
    ReturnsInHanded {} Tryz.checked os 7 .any (fun w args=>(Rows.fnExactReflectionMapSpec.pre enc Tryz.prog Tryz.f7 [] false w args∧laidMetH Tryz.prog Rows.fnExactReflectionMapRow.laid w)∧sizedMet enc Tryz.prog Tryz.f7 (OpenSpec.ofChange Rows.fnExactReflectionMapSpec) false w args) (Rows.fnExactReflectionMapSpec.post enc Tryz.prog Tryz.f7 false true false false):=by
  refine OO (fun _ _ hh h=>h.of_heap hh) (C:=Tryz.checked) (X:=fun w=>laidMetH Tryz.prog Rows.fnExactReflectionMapRow.laid w) Tryz.own started (by kernel_rfl) Tryz.func7
    (ChangeSpec.witness_shaped (enc:=enc) (C:=Tryz.checked) (os:=os) (X:=fun w _=>laidMetH Tryz.prog Rows.fnExactReflectionMapRow.laid w) false (World.laidAll Tryz.prog os Rows.fnExactReflectionMapRow.laid) #[.agg #[.int .i64 0,.slice none 0 0],.int .i64 0,.int .i64 0] 8 (World.laidAll_os _ _ _)
      (World.shaped_of_ZipB (by kernel_rfl) (by kernel_rfl)) (by kernel_rfl) (by kernel_rfl) (by kernel_rfl)
      (by rw[MakeChecks.laidMetH_plain _ _ _ (by kernel_rfl)];exact laidMet_laidAll _ (by kernel_rfl) (by kernel_rfl))) ?_
  intro W base args ds gs before hval0 hW hsh hX
  rw[MakeChecks.laidMetH_plain _ _ _ (by kernel_rfl)] at hX
  have hval:∀ (j:Nat) t v,Tryz.f7.params[j]?=some t→args[j]?=some v→Value.okWide Tryz.prog W .any base t v:=hval0
  have hW':=hW
  obtain⟨p,q,hA0,hV,rfl,_,_⟩:=hW
  have hA:DataW.TrodAll enc Tryz.prog W 0 (fun _=>true) true Tryz.f7.params.toList args.toList ds p:=hA0
  rw[Tryz.params7] at hA hval
  obtain⟨v0,v1,v2,d0,d1,d2,p0,p1,p2,rfl,rfl,rfl,h0,h1,h2⟩:=trodAll_three hA
  obtain⟨rfl,rfl⟩:=trodVars_none hV
  clear hA0 hval0
  simp only[List.append_nil] at hW'
  have hlt0:∀ x∈p0,x.block<W.heap.size:=fun x hx=>hW'.lt x (by simp[hx])
  have hlt1:∀ x∈p1,x.block<W.heap.size:=fun x hx=>hW'.lt x (by simp[hx])
  have hlt2:∀ x∈p2,x.block<W.heap.size:=fun x hx=>hW'.lt x (by simp[hx])
  have hh0:=h0
  have hh1:=h1
  have hh2:=h2
  obtain⟨a0k0,va0,a0,rfl,ia0,wa0⟩:=Pb (hval 0 24 v0 rfl rfl) h0
  obtain⟨a1,rfl,_,_,wa1⟩:=open_int Tryz.underlying3 (hval 1 3 v1 rfl rfl) h1
  obtain⟨a2,rfl,_,_,wa2⟩:=open_int Tryz.underlying3 (hval 2 3 v2 rfl rfl) h2
  refine(((GX (ba ia0) (ent_ints ia0) (dw ia0) (O3 hsh) (ZL hX)).top fun _ _ h=>h.2).mono) fun e W' ⟨v,he,⟨_,hv,_⟩,hb⟩=>?_
  subst he hv
  refine⟨_,rfl,_,_,_,[],p0++(p1++p2),[],hW',trodAll_mk1 (shut_bool Tryz.underlying4 true),?_,rfl,hb.frame _,fun h=>by cases h⟩
  exact trodAll_mk3 (Below.trod Tryz.laidOut (by kernel_rfl) (of_decide_eq_true (by kernel_rfl)) hh0 hb hlt0) (Below.trod Tryz.laidOut (by kernel_rfl) (of_decide_eq_true (by kernel_rfl)) hh1 hb hlt1) (Below.trod Tryz.laidOut (by kernel_rfl) (of_decide_eq_true (by kernel_rfl)) hh2 hb hlt2)
theorem FY:Rows.FnExactReflectionMapSaid :=
  OpenClaim.holds_of_wide 7 Tryz.f7 rfl rfl rfl rfl rfl rfl rfl ⟨rfl,rfl,rfl,rfl,rfl⟩ rfl rfl rfl rfl rfl (by kernel_rfl) Tryz.func7 (by kernel_rfl)
    (of_decide_eq_true (by kernel_rfl)) (by unfold Func.isWrapper;first | (rw[if_pos (by decide +kernel)];kernel_rfl) | (rw[if_neg (by decide +kernel)];exact⟨rfl,rfl⟩))
    (fun os started H enc _=>Fa os started H enc)
theorem reflectionMap_holds:Rows.FnExactReflectionMapCardSaid :=
  Claim7.holds_tied_plain_at .later [] [.data,.data,.data,.data,.pinned] true (true, "8c7d1d4f670b197619611d184bb6b516a59e0d01d28a8c54194c92c555ea14e5") false FY (fun _ h=>by cases h) (by kernel_rfl) (fun _ h=>by cases h) fnExactReflectionMap_row_tie rfl ⟨rfl,rfl⟩ (by kernel_rfl) rfl
    (fun f fn hf hfn=>by
      obtain rfl:f=7:=Option.some.inj ((show Tryz.prog.funcNamed "loop.example/g03109/laws.FnExactReflectionMap" = some 7 by kernel_rfl).symm.trans hf) |>.symm
      obtain rfl:fn=Tryz.f7:=(Option.some.inj (Tryz.func7.symm.trans hfn)).symm
      exact⟨by kernel_rfl,fun j t ht=>by
        rw[Tryz.params7] at ht
        have hm:t∈[24,3,3]:=by simpa using Array.mem_of_getElem? ht
        have hall:([24,3,3].all fun u => !Tryz.prog.wantsStandIn u)=true:=by kernel_rfl
        exact(show Tryz.prog.wantsStandIn t=false by simpa using List.all_eq_true.1 hall t hm)⟩)
    (by kernel_rfl)
#print axioms reflectionMap_holds
end Go.Proofs.YtbmnnbglipkidaaGreatDoor
