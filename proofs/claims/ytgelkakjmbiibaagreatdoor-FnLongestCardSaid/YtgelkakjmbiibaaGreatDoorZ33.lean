/-
  Lists of lists that share their lists with others: parts of them, what they hold, other orders; and the plain steps of putting roots in order.
-/
import Derived.Test.YtgelkakjmbiibaaGreatDoorZ35
import Derived.Test.YtgelkakjmbiibaaGreatDoorRts
import Derived.Test.YtgelkakjmbiibaaGreatDoorZ30
import Derived.Test.YtgelkakjmbiibaaGreatDoorFct
import Derived.Test.YtgelkakjmbiibaaGreatDoorWRhoA
namespace Go.Proofs.YtgelkakjmbiibaaGreatDoor
set_option linter.unusedVariables false
set_option linter.unusedSimpArgs false
open Go.RowKit
section
variable {P : Program} {n : Nat} {env : List (Nat × Value)} {W : World} {own : List Asn}
theorem Ent.len {v : Value} {m k sz : Nat} {cs : List Value} (h : Ent own fun w => Sl w v m sz cs) (e : m = k) : Ent own fun w => Sl w v k sz cs := e ▸ h
theorem AllS.part {us : List Value} (h : AllS us) (l m : Nat) : AllS ((us.drop l).take m) := fun u hu => h u (List.mem_of_mem_drop (List.mem_of_mem_take hu))
theorem AllS.app {us vs : List Value} (h : AllS us) (k : AllS vs) : AllS (us ++ vs) := fun u hu => by
  rcases List.mem_append.1 hu with hu | hu
  · exact h u hu
  · exact k u hu
theorem zipWith_zip {α : Type} (A : Value → α → Asn) : ∀ (vs : List Value) (xs : List α), List.zipWith A vs xs = (vs.zip xs).map fun p => A p.1 p.2
  | [], _ => rfl
  | _ :: _, [] => rfl
  | v :: vs, x :: xs => by simp [zipWith_zip A vs xs]
theorem St.manyPerm {w : World} {α : Type} {A : Value → α → Asn} {vs us : List Value} {xs ys : List α} (h : St W w (many A vs xs :: own)) (hp : (vs.zip xs).Perm (us.zip ys)) : St W w (many A us ys :: own) := by
  refine St.pack ?_
  have h1 := St.unpack h
  rw [zipWith_zip] at h1 ⊢
  exact h1.perm ((hp.map _).append_right _)
theorem GE.manyPerm {α : Type} {A : Value → α → Asn} {vs us : List Value} {xs ys : List α} (hp : (vs.zip xs).Perm (us.zip ys)) {e : Exit} {Q : Exit → Act → World → Prop} (h : GE e Q n env W (many A us ys :: own)) : GE e Q n env W (many A vs xs :: own) := fun a w hf hs => h a w hf (hs.manyPerm hp)
end
theorem takeD_snoc {α : Type} {L : List α} {p : Nat} {d : α} (hp : p < L.length) : L.take (p + 1) = L.take p ++ [L.getD p d] := by
  rw [List.take_succ_eq_append_getElem hp]
  simp [List.getD, hp]
theorem unitL_set {m i : Nat} (h : i < m) : (List.replicate m (0 : Int)).set i 1 = unitL m i := by
  refine ext_getD (by simp [unitL]) fun k hk => ?_
  have hk' : k < m := by simpa using hk
  have hu : (unitL m i).getD k 0 = if k = i then 1 else 0 := by simp [unitL, List.getD, hk']
  rw [hu]
  by_cases e : k = i
  · subst e
    rw [set_getD_eq (by simpa using hk'), if_pos rfl]
  · rw [set_getD_ne (fun h => e h.symm), if_neg e]
    simp [List.getD, hk']
theorem units_next {m i : Nat} : (List.range i).map (unitL m) ++ [unitL m i] = (List.range (i + 1)).map (unitL m) := by rw [List.range_succ, List.map_append]; rfl
theorem unitL_len (m i : Nat) : (unitL m i).length = m := by simp [unitL]
theorem RtOk.first {n : Int} {d : List Int} (h : RtOk n d) {i : Nat} (hi : n.toNat ≤ i) (hi2 : i ≤ n.toNat) : rC n d 40 ((List.range i).map (unitL n.toNat)) 0 = some (rFd n d) := by
  have e : i = n.toNat := by omega
  subst e
  exact h.run
theorem RtOk.inner {n : Int} {d : List Int} (h : RtOk n d) {fs gs : List (List Int)} {k i : Nat} (hpre : ∀ i, i ≤ n.toNat → Pre ((List.range i).foldl (rOne n d (fs.getD k [])) fs) (rFd n d)) (hk : k < fs.length) (hi : i ≤ n.toNat) (hg : gs = (List.range i).foldl (rOne n d (fs.getD k [])) fs) :
    k < gs.length ∧ gs.getD k [] = fs.getD k [] ∧ gs.length ≤ 30 ∧ (gs.getD k []).length = n.toNat ∧ (∀ j, 0 ≤ (gs.getD k []).getD j 0 ∧ (gs.getD k []).getD j 0 ≤ 10) ∧ (∀ j, j < gs.length → (gs.getD j []).length = n.toNat) := by
  have h1 : Pre gs (rFd n d) := by rw [hg]; exact hpre i hi
  have h2 : Pre fs gs := by rw [hg]; exact rIn_pre (i := 0) (Nat.zero_le _)
  have h3 := h2.len
  have h4 := h.fget h1 (show k < gs.length by omega)
  exact ⟨by omega, h2.get hk, Nat.le_trans h1.len h.few, h4.1, h4.2, fun j hj => (h.fget h1 hj).1⟩
theorem RtOk.arI {n : Int} {d : List Int} (h : RtOk n d) {x y : List Int} {i : Nat} (e : x = y) (hl : x.length = n.toNat) (hb : ∀ j, 0 ≤ x.getD j 0 ∧ x.getD j 0 ≤ 10) (hi : i < n.toNat) : arI n d (i : Int) x = rStep n d y i := by
  subst e
  exact arI_step h.mat (fun k _ => by have := hb k; omega) hl h.rk (by simpa using hi)
end Go.Proofs.YtgelkakjmbiibaaGreatDoor

namespace Go.Proofs.YtgelkakjmbiibaaGreatDoor
set_option linter.unusedVariables false
set_option linter.unusedSimpArgs false
open Go.RowKit
set_option maxRecDepth 100000 in
theorem copyLists_w {W : World} {own : List Asn} {vx : Value} {ux : List Value} {x : List (List Int)}  (sx : IsS vx) (ex : Ent own fun w => Sl w vx x.length 1 ux) (mx : ∀ k, k < x.length → Ent own fun w => Ints w (ux.getD k undef) (x.getD k [])) (lx : ux.length = x.length) (ax : AllS ux)  (hlx : x.length ≤ 100000) (hle : ∀ k, k < x.length → (x.getD k []).length ≤ 1000) : Spec Tryz.prog 93 [vx] W own (fun v ow => ∃ (r0 : Value) (u0 : List Value), v = r0 ∧ IsS r0 ∧ AllS u0 ∧ u0.length = x.length ∧ ow = lst 22 r0 u0 :: many (ints 3) u0 x :: own) := by
 refine Spec.enter Tryz.f93 _ Tryz.func93 rfl (n := 20) rfl rfl ?_
 refine GC.seq (GC.region ?_)
 refine G.stepD (OD.assign rfl rfl) rfl rfl rfl ?_
 refine G.nil (GE.then_ (GC.seq (GC.region ?_)))
 refine G.step (OG.buildLst (xs := []) (us := []) rfl et39 rfl rfl rfl rfl rfl) rfl rfl rfl ?_
 rintro v1 _ ⟨hs2, rfl⟩
 refine G.stepD (OD.assign rfl rfl) rfl rfl rfl ?_
 refine G.nil (GE.then_ (GC.seq (GC.seq (GC.region ?_))))
 refine G.stepD (OD.move rfl rfl) rfl rfl rfl ?_
 refine G.stepD (OD.len rfl rfl et39 rfl (Ent.drop 1 ex)) rfl rfl rfl ?_
 refine G.stepD (OD.move rfl rfl) rfl rfl rfl ?_
 refine G.nil (GE.then_ (GC.block ?_))
 refine GC.many0 (ints 3) ?_
 refine GC.loop (ι := Nat × List Value × Value) (fun ⟨p, us, v⟩ => [(7, vx), (8, .int .i64 ((x.length : Nat))), (3, v), (9, .int .i64 ((p : Int)))]) (fun ⟨p, us, v⟩ => many (ints 3) us (x.take p) :: lst 22 v us :: own) (fun ⟨p, us, v⟩ => (p ≤ x.length) ∧ (AllS us) ∧ (us.length = p) ∧ (IsS v)) (fun ⟨p, us, v⟩ => x.length - p) (0, [], v1) (⟨by omega, AllS.nil, rfl, hs2⟩) ⟨rfl, rfl, rfl, rfl, trivial⟩ [] 0 rfl ?_
 rintro ⟨p, us, v⟩ ⟨hp, ha, hul, hv⟩
 have htl : (x.take p).length = p := by rw [List.length_take]; omega
 refine GC.seq (GC.region ?_)
 refine G.stepD (OD.lss rfl rfl rfl) rfl rfl rfl ?_
 refine G.nil (GE.then_ (GC.seq ?_))
 refine GC.cond rfl (fun hc3 => ?_) (fun hc3 => ?_)
 replace hc3 := of_decide_eq_true hc3
 refine GC.skip (GE.then_ (GC.seq (GC.block (GC.seq (GC.region ?_)))))
 refine G.stepD (OD.indexAddr rfl et39 rfl (Ent.drop 2 ex) rfl (by omega)) rfl rfl rfl ?_
 refine G.stepD (OD.loadElem rfl ti22 rfl (Ent.drop 2 ex) (by omega) rfl) rfl rfl rfl ?_
 refine G.stepD (OD.assign rfl rfl) rfl rfl rfl ?_
 refine G.nil (GE.then_ (GC.region ?_))
 refine G.stepD (OD.move rfl rfl) rfl rfl rfl ?_
 refine G.stepD (OD.move rfl rfl) rfl rfl rfl ?_
 refine G.step (OG.call [(ux.getD (p) undef)] ent76 rfl rfl rfl rfl (by exact (clone_w (ax.get (by omega)) (Ent.drop 2 (mx (p) (by omega))) (Nat.le_trans (hle p (by omega)) (by decide))))) rfl rfl rfl ?_
 rintro v4 _ ⟨_, rfl, hs5, rfl⟩
 refine G.step (OG.buildLst (xs := [.tmp 15]) (us := [v4]) rfl et39 rfl rfl rfl (allC (IsS.one hs5) rfl) rfl) rfl rfl rfl ?_
 rintro v6 _ ⟨hs7, rfl⟩
 refine G.step (OG.appendLst 3 rfl rfl et39 rfl rfl rfl (Ent.lst (i := 0) rfl) (List.all_eq_true.2 fun u hu => by simpa using (AllS.snoc AllS.nil hs5).one u hu) (by simp [maxLen] <;> omega)) rfl rfl rfl ?_
 rintro v8 _ ⟨hs9, rfl⟩
 refine G.stepD (OD.assign rfl rfl) rfl rfl rfl ?_
 refine G.nil (GE.blockN (GE.then_ (GC.region ?_)))
 refine G.stepD (OD.addI rfl rfl rfl (by omega)) rfl rfl rfl ?_
 refine G.stepD (OD.move rfl rfl) rfl rfl rfl ?_
 refine G.nil ?_
 refine GE.at [1, 1, 0, 0] 0 (env' := [(7, vx), (8, .int .i64 ((x.length : Nat))), (10, .bool (decide ((p : Int) < (x.length : Nat)))), (11, elemPtr vx 1 (p)), (12, (ux.getD (p) undef)), (5, (ux.getD (p) undef)), (13, v), (14, (ux.getD (p) undef)), (15, v4), (16, v6), (17, v8), (3, v8), (18, .int .i64 ((p : Int) + 1)), (9, .int .i64 ((p : Int) + 1))]) ⟨rfl, rfl, rfl, rfl, rfl, rfl, rfl, rfl, rfl, rfl, rfl, rfl, rfl, rfl, trivial⟩ (own' := ints 3 v4 (x.getD (p) []) :: many (ints 3) us (x.take p) :: lst 22 v6 [v4] :: lst 22 v8 (us ++ [v4]) :: own) rfl ?_
 refine GE.manyPush (by omega) ?_
 refine GE.ownEq (own' := many (ints 3) (us ++ [v4]) (x.take (p + 1)) :: lst 22 v6 [v4] :: lst 22 v8 (us ++ [v4]) :: own) (by rw [takeD_snoc (d := []) (by omega)]) ?_
 exact GE.again (p + 1, us ++ [v4], v8) (⟨by omega, (ha.snoc hs5), by rw [List.length_append, List.length_singleton]; omega, hs9⟩) (by first | omega | (dsimp only; omega)) ⟨rfl, rfl, rfl, rfl, trivial⟩ [0, 1] 1 rfl
 replace hc3 := of_decide_eq_false hc3
 refine GC.exit (GE.pass (GE.pass (GE.hit (GE.then_ (GC.seq (GC.region ?_))))))
 refine G.stepD (OD.move rfl rfl) rfl rfl rfl ?_
 refine G.stepD (OD.assign rfl rfl) rfl rfl rfl ?_
 refine G.nil (GE.then_ (GC.ret ?_))
 exact GE.body [1, 0] 0 (res1 rfl rfl) rfl (⟨v, us, rfl, hv, ha, (by omega), congrArg (fun (l0 : List (List Int)) => lst 22 v us :: many (ints 3) us l0 :: own) ((List.take_of_length_le (by omega) : x.take p = x))⟩)
end Go.Proofs.YtgelkakjmbiibaaGreatDoor

namespace Go.Proofs.YtgelkakjmbiibaaGreatDoor
set_option linter.unusedVariables false
set_option linter.unusedSimpArgs false
open Go.RowKit
set_option maxRecDepth 100000 in
theorem sumOf_w {W : World} {own : List Asn} {vx : Value} {x : List Int}  (sx : IsS vx) (ex : Ent own fun w => Ints w vx x)  (hl : x.length ≤ 1073741824) : Spec Tryz.prog 79 [vx] W own (fun v ow => v = .int .i64 (sumW x) ∧ ow = own) := by
 refine Spec.enter Tryz.f79 _ Tryz.func79 rfl (n := 17) rfl rfl ?_
 refine GC.seq (GC.region ?_)
 refine G.stepD (OD.assign rfl rfl) rfl rfl rfl ?_
 refine G.nil (GE.then_ (GC.seq (GC.region ?_)))
 refine G.stepD (OD.assign rfl rfl) rfl rfl rfl ?_
 refine G.nil (GE.then_ (GC.seq (GC.seq (GC.region ?_))))
 refine G.stepD (OD.move rfl rfl) rfl rfl rfl ?_
 refine G.stepD (OD.len rfl rfl et22 rfl ex) rfl rfl rfl ?_
 refine G.stepD (OD.move rfl rfl) rfl rfl rfl ?_
 refine G.nil (GE.then_ (GC.block ?_))
 refine GC.loop (ι := Nat × Int) (fun ⟨k, q⟩ => [(6, vx), (7, .int .i64 ((x.length : Nat))), (3, .int .i64 (q)), (8, .int .i64 ((k : Int)))]) (fun ⟨k, q⟩ => own) (fun ⟨k, q⟩ => (k ≤ x.length) ∧ (q = (List.range k).foldl (fun (s : Int) (i : Nat) => IntKind.i64.wrap (s + x.getD i 0)) 0)) (fun ⟨k, q⟩ => x.length - k) (0, 0) (⟨by omega, rfl⟩) ⟨rfl, rfl, rfl, rfl, trivial⟩ [] 0 rfl ?_
 rintro ⟨k, q⟩ ⟨hk, hq⟩
 refine GC.seq (GC.region ?_)
 refine G.stepD (OD.lss rfl rfl rfl) rfl rfl rfl ?_
 refine G.nil (GE.then_ (GC.seq ?_))
 refine GC.cond rfl (fun hc1 => ?_) (fun hc1 => ?_)
 replace hc1 := of_decide_eq_true hc1
 refine GC.skip (GE.then_ (GC.seq (GC.block (GC.seq (GC.region ?_)))))
 refine G.stepD (OD.indexAddr rfl et22 rfl ex rfl (by omega)) rfl rfl rfl ?_
 refine G.stepD (OD.loadInt rfl ti3 rfl ex (by omega)) rfl rfl rfl ?_
 refine G.stepD (OD.assign rfl rfl) rfl rfl rfl ?_
 refine G.nil (GE.then_ (GC.region ?_))
 refine G.stepD (OD.move rfl rfl) rfl rfl rfl ?_
 refine G.stepD (OD.move rfl rfl) rfl rfl rfl ?_
 refine G.stepD (OD.add rfl rfl rfl) rfl rfl rfl ?_
 refine G.stepD (OD.assign rfl rfl) rfl rfl rfl ?_
 refine G.nil (GE.blockN (GE.then_ (GC.region ?_)))
 refine G.stepD (OD.addI rfl rfl rfl (by omega)) rfl rfl rfl ?_
 refine G.stepD (OD.move rfl rfl) rfl rfl rfl ?_
 refine G.nil ?_
 exact GE.again (k + 1, IntKind.i64.wrap (q + (x.getD (k) 0))) (⟨by omega, fold_next hq rfl⟩) (by first | omega | (dsimp only; omega)) ⟨rfl, rfl, rfl, rfl, trivial⟩ [] 0 rfl
 replace hc1 := of_decide_eq_false hc1
 refine GC.exit (GE.pass (GE.pass (GE.hit (GE.then_ (GC.seq (GC.region ?_))))))
 refine G.stepD (OD.move rfl rfl) rfl rfl rfl ?_
 refine G.stepD (OD.assign rfl rfl) rfl rfl rfl ?_
 refine G.nil (GE.then_ (GC.ret ?_))
 exact GE.body [] 0 (res1 rfl rfl) rfl (⟨congrArg (fun (a0 : Int) => (.int .i64 (a0) : Value)) ((by rw [hq, show k = x.length by omega]; rfl : (q : Int) = sumW x)), rfl⟩)
set_option maxRecDepth 100000 in
theorem unit_w {W : World} {own : List Asn} {n : Int} {i : Int}   (hn : 0 ≤ n ∧ n ≤ 4) (hi : 0 ≤ i ∧ i < n) : Spec Tryz.prog 132 [.int .i64 (n), .int .i64 (i)] W own (fun v ow => ∃ (r0 : Value), v = r0 ∧ IsS r0 ∧ ow = ints 3 r0 (unitL n.toNat i.toNat) :: own) := by
 refine Spec.enter Tryz.f132 _ Tryz.func132 rfl (n := 12) rfl rfl ?_
 refine GC.seq (GC.region ?_)
 refine G.stepD (OD.assign rfl rfl) rfl rfl rfl ?_
 refine G.nil (GE.then_ (GC.seq (GC.region ?_)))
 refine G.stepD (OD.move rfl rfl) rfl rfl rfl ?_
 refine G.step (OG.makeInts rfl et22 rfl rfl (by omega)) rfl rfl rfl ?_
 rintro v1 _ ⟨hs2, rfl⟩
 refine G.stepD (OD.assign rfl rfl) rfl rfl rfl ?_
 refine G.nil (GE.then_ (GC.seq (GC.region ?_)))
 refine G.stepD (OD.move rfl rfl) rfl rfl rfl ?_
 refine G.stepD (OD.move rfl rfl) rfl rfl rfl ?_
 refine G.stepD (OD.indexAddr rfl et22 rfl (Ent.ints (i := 0) rfl) rfl (by first | omega | (simp only [List.length_set, List.length_replicate]; omega))) rfl rfl rfl ?_
 refine G.stepD0 (OD.storeInt rfl ti3 rfl rfl (i := 0) rfl (by first | omega | (simp only [List.length_set, List.length_replicate]; omega))) rfl rfl ?_
 refine G.nil (GE.then_ (GC.seq (GC.region ?_)))
 refine G.stepD (OD.move rfl rfl) rfl rfl rfl ?_
 refine G.stepD (OD.assign rfl rfl) rfl rfl rfl ?_
 refine G.nil (GE.then_ (GC.ret ?_))
 exact GE.body [] 0 (res1 rfl rfl) rfl (⟨v1, rfl, hs2, congrArg (fun (l0 : List Int) => ints 3 v1 l0 :: own) ((unitL_set (by omega) : (List.replicate (n : Int).toNat (0 : Int)).set ((i : Int).toNat) (1) = unitL n.toNat i.toNat))⟩)
end Go.Proofs.YtgelkakjmbiibaaGreatDoor

namespace Go.Proofs.YtgelkakjmbiibaaGreatDoor
set_option linter.unusedVariables false
set_option linter.unusedSimpArgs false
open Go.RowKit
theorem ent119 : ∀ us w, (callFunc 119 us).run Tryz.prog w = .ok (.enter 119 us) w := fun us w => by kernel_rfl
theorem ent165 : ∀ us w, (callFunc 165 us).run Tryz.prog w = .ok (.enter 165 us) w := fun us w => by kernel_rfl
set_option maxRecDepth 100000 in
theorem isWordF_w {W : World} {own : List Asn} {y : Int} {gc : Nat}  {cr : Int} {vc : Value} (hcr : 1 ≤ cr ∧ cr ≤ 4) : Spec Tryz.prog 165 [.int .i64 (y), .pointer (some ⟨gc, 0, none⟩)] W (box gc 27 [.int .i64 (cr), vc] :: own) (fun v ow => v = .bool (!(inB y 0 (cr - 1))) ∧ ow = box gc 27 [.int .i64 (cr), vc] :: own) := by
 refine Spec.enter Tryz.f165 _ Tryz.func165 rfl (n := 10) rfl rfl ?_
 refine GC.seq (GC.region ?_)
 refine G.stepD (OD.assign rfl rfl) rfl rfl rfl ?_
 refine G.nil (GE.then_ (GC.seq (GC.region ?_)))
 refine G.stepD (OD.move rfl rfl) rfl rfl rfl ?_
 refine G.stepD (OD.fieldAddr rfl rfl fa27_0) rfl rfl rfl ?_
 refine G.stepD (OD.load rfl ti3 rfl (i := 0) rfl rfl) rfl rfl rfl ?_
 refine G.stepD (OD.subI rfl rfl rfl (by omega)) rfl rfl rfl ?_
 refine G.step (OG.call [.int .i64 (y), .int .i64 (0), .int .i64 (cr - 1)] ent103 rfl rfl rfl rfl (by exact inside_w)) rfl rfl rfl ?_
 rintro _ _ ⟨rfl, rfl⟩
 refine G.stepD (OD.not rfl rfl) rfl rfl rfl ?_
 refine G.stepD (OD.assign rfl rfl) rfl rfl rfl ?_
 refine G.nil (GE.then_ (GC.ret ?_))
 exact GE.body [] 0 (res1 rfl rfl) rfl (⟨rfl, rfl⟩)
set_option maxRecDepth 100000 in
theorem indexFuncW_w {W : World} {own : List Asn} {vx : Value} {x : List Int} {gc : Nat}  (sx : IsS vx) (ex : Ent own fun w => Ints w vx x)  {cr : Int} {vc : Value} (hl : x.length ≤ 9223372036854775807) (hcr : 1 ≤ cr ∧ cr ≤ 4) : Spec Tryz.prog 89 [vx, .func (.func 165) #[] #[.pointer (some ⟨gc, 0, none⟩)]] W (box gc 27 [.int .i64 (cr), vc] :: own) (fun v ow => v = .int .i64 (posF (fun (y : Int) => !(inB y 0 (cr - 1))) x) ∧ ow = box gc 27 [.int .i64 (cr), vc] :: own) := by
 refine Spec.enter Tryz.f89 _ Tryz.func89 rfl (n := 19) rfl rfl ?_
 refine GC.seq (GC.region ?_)
 refine G.stepD (OD.assign rfl rfl) rfl rfl rfl ?_
 refine G.nil (GE.then_ (GC.seq (GC.seq (GC.region ?_))))
 refine G.stepD (OD.move rfl rfl) rfl rfl rfl ?_
 refine G.stepD (OD.len rfl rfl et22 rfl (Ent.drop 1 ex)) rfl rfl rfl ?_
 refine G.stepD (OD.move rfl rfl) rfl rfl rfl ?_
 refine G.nil (GE.then_ (GC.block ?_))
 refine GC.loop (ι := Nat) (fun k => [(0, vx), (1, .func (.func 165) #[] #[.pointer (some ⟨gc, 0, none⟩)]), (7, .int .i64 ((x.length : Nat))), (8, .int .i64 ((k : Int)))]) (fun k => box gc 27 [.int .i64 (cr), vc] :: own) (fun k => (k ≤ x.length) ∧ ((x.take k).any (fun (y : Int) => !(inB y 0 (cr - 1))) = false)) (fun k => x.length - k) 0 (⟨by omega, by simp⟩) ⟨rfl, rfl, rfl, rfl, trivial⟩ [] 0 rfl ?_
 rintro k ⟨hk, ht⟩
 refine GC.seq (GC.region ?_)
 refine G.stepD (OD.lss rfl rfl rfl) rfl rfl rfl ?_
 refine G.nil (GE.then_ (GC.seq ?_))
 refine GC.cond rfl (fun hc1 => ?_) (fun hc1 => ?_)
 replace hc1 := of_decide_eq_true hc1
 refine GC.skip (GE.then_ (GC.seq (GC.block (GC.seq (GC.region ?_)))))
 refine G.stepD (OD.move rfl rfl) rfl rfl rfl ?_
 refine G.stepD (OD.assign rfl rfl) rfl rfl rfl ?_
 refine G.nil (GE.then_ (GC.seq (GC.region ?_)))
 refine G.stepD (OD.move rfl rfl) rfl rfl rfl ?_
 refine G.stepD (OD.move rfl rfl) rfl rfl rfl ?_
 refine G.stepD (OD.move rfl rfl) rfl rfl rfl ?_
 refine G.stepD (OD.indexAddr rfl et22 rfl (Ent.drop 1 ex) rfl (by omega)) rfl rfl rfl ?_
 refine G.stepD (OD.loadInt rfl ti3 rfl (Ent.drop 1 ex) (by omega)) rfl rfl rfl ?_
 refine G.step (OG.call [.int .i64 (x.getD (k) 0), .pointer (some ⟨gc, 0, none⟩)] ent165 rfl rfl rfl rfl (by exact (isWordF_w (hcr)))) rfl rfl rfl ?_
 rintro _ _ ⟨rfl, rfl⟩
 refine G.nil (GE.then_ ?_)
 refine GC.cond rfl (fun hc2 => ?_) (fun hc2 => ?_)
 replace hc2 := eq_false_of_not hc2
 have hc2b : (fun (y : Int) => !(inB y 0 (cr - 1))) (x.getD k 0) = true := by show (!(inB _ _ _)) = true; rw [hc2]; rfl
 refine GC.seq (GC.region ?_)
 refine G.stepD (OD.move rfl rfl) rfl rfl rfl ?_
 refine G.stepD (OD.assign rfl rfl) rfl rfl rfl ?_
 refine G.nil (GE.then_ (GC.ret (GE.blockR (GE.passR (GE.passR (GE.blockR (GE.passR ?_)))))))
 exact GE.body [] 0 (res1 rfl rfl) rfl (⟨congrArg (fun (a0 : Int) => (.int .i64 (a0) : Value)) (((posF_at (d := 0) (by omega) ht (by assumption)).symm : ((k : Int) : Int) = posF (fun (y : Int) => !(inB y 0 (cr - 1))) x)), rfl⟩)
 replace hc2 := eq_true_of_not hc2
 have hc2b : (fun (y : Int) => !(inB y 0 (cr - 1))) (x.getD k 0) = false := by show (!(inB _ _ _)) = false; rw [hc2]; rfl
 refine GC.skip (GE.blockN (GE.then_ (GC.region ?_)))
 refine G.stepD (OD.addI rfl rfl rfl (by omega)) rfl rfl rfl ?_
 refine G.stepD (OD.move rfl rfl) rfl rfl rfl ?_
 refine G.nil ?_
 exact GE.again (k + 1) (⟨by omega, any_take_succ (d := 0) (by omega) ht (by assumption)⟩) (by first | omega | (dsimp only; omega)) ⟨rfl, rfl, rfl, rfl, trivial⟩ [] 0 rfl
 replace hc1 := of_decide_eq_false hc1
 refine GC.exit (GE.pass (GE.pass (GE.hit (GE.then_ (GC.seq (GC.region ?_))))))
 refine G.stepD (OD.assign rfl rfl) rfl rfl rfl ?_
 refine G.nil (GE.then_ (GC.ret ?_))
 exact GE.body [] 0 (res1 rfl rfl) rfl (⟨congrArg (fun (a0 : Int) => (.int .i64 (a0) : Value)) (((posF_none (any_take_all (by omega) ht)).symm : (-1 : Int) = posF (fun (y : Int) => !(inB y 0 (cr - 1))) x)), rfl⟩)
set_option maxRecDepth 100000 in
theorem containsFuncW_w {W : World} {own : List Asn} {vx : Value} {x : List Int} {gc : Nat}  (sx : IsS vx) (ex : Ent own fun w => Ints w vx x)  {cr : Int} {vc : Value} (hl : x.length ≤ 9223372036854775807) (hcr : 1 ≤ cr ∧ cr ≤ 4) : Spec Tryz.prog 136 [vx, .func (.func 165) #[] #[.pointer (some ⟨gc, 0, none⟩)]] W (box gc 27 [.int .i64 (cr), vc] :: own) (fun v ow => v = .bool (x.any (fun (y : Int) => !(inB y 0 (cr - 1)))) ∧ ow = box gc 27 [.int .i64 (cr), vc] :: own) := by
 refine Spec.enter Tryz.f136 _ Tryz.func136 rfl (n := 9) rfl rfl ?_
 refine GC.seq (GC.region ?_)
 refine G.stepD (OD.assign rfl rfl) rfl rfl rfl ?_
 refine G.nil (GE.then_ (GC.seq (GC.region ?_)))
 refine G.stepD (OD.move rfl rfl) rfl rfl rfl ?_
 refine G.stepD (OD.move rfl rfl) rfl rfl rfl ?_
 refine G.step (OG.call [vx, .func (.func 165) #[] #[.pointer (some ⟨gc, 0, none⟩)]] ent89 rfl rfl rfl rfl (by exact (indexFuncW_w sx ex (hl) (hcr)))) rfl rfl rfl ?_
 rintro _ _ ⟨rfl, rfl⟩
 refine G.stepD (OD.geq rfl rfl rfl) rfl rfl rfl ?_
 refine G.stepD (OD.assign rfl rfl) rfl rfl rfl ?_
 refine G.nil (GE.then_ (GC.ret ?_))
 exact GE.body [] 0 (res1 rfl rfl) rfl (⟨congrArg (fun (a0 : Bool) => (.bool (a0) : Value)) ((posF_ge : (decide (0 ≤ posF (fun (y : Int) => !(inB y 0 (cr - 1))) x) : Bool) = x.any (fun (y : Int) => !(inB y 0 (cr - 1))))), rfl⟩)
set_option maxRecDepth 100000 in
theorem isWord_w {W : World} {own : List Asn} {cr : Int} {vcd : Value} {cd : List Int} {vx : Value} {x : List Int}  (scd : IsS vcd) (ecd : Ent own fun w => Ints w vcd cd)   (sx : IsS vx) (ex : Ent own fun w => Ints w vx x)  (hl : x.length ≤ 9223372036854775807) (hcr : 1 ≤ cr ∧ cr ≤ 4) : Spec Tryz.prog 119 [.agg #[.int .i64 (cr), vcd], vx] W own (fun v ow => v = .bool (wdOk cr x) ∧ ow = own) := by
 refine Spec.enter Tryz.f119 _ Tryz.func119 rfl (n := 14) rfl rfl ?_
 refine GC.seq (GC.region ?_)
 refine G.step (OG.box (cs := [.int .i64 (cr), vcd]) rfl rfl rfl) rfl rfl rfl ?_
 rintro _ _ ⟨g1, rfl, rfl⟩
 refine G.stepD (OD.assign rfl rfl) rfl rfl rfl ?_
 refine G.nil (GE.then_ (GC.seq (GC.region ?_)))
 refine G.stepD (OD.move rfl rfl) rfl rfl rfl ?_
 refine G.stepD (OD.len rfl rfl et22 rfl (Ent.drop 1 ex)) rfl rfl rfl ?_
 refine G.stepD (OD.leq rfl rfl rfl) rfl rfl rfl ?_
 refine G.stepD (OD.move rfl rfl) rfl rfl rfl ?_
 rcases Bool.eq_false_or_eq_true (decide (((x.length : Nat) : Int) ≤ 60)) with hg2 | hg2
 have hg2e := hg2
 refine G.at [] 0 (env' := [(0, .agg #[.int .i64 (cr), vcd]), (1, vx), (2, .pointer (some ⟨g1, 0, none⟩)), (4, .bool false), (5, vx), (6, .int .i64 ((x.length : Nat))), (7, .bool true), (8, .bool true)]) (⟨rfl, rfl, rfl, rfl, rfl, rfl, (congrArg (fun b => some (Value.bool b)) hg2e), (congrArg (fun b => some (Value.bool b)) hg2e), trivial⟩) rfl ?_
 replace hg2 := of_decide_eq_true hg2
 refine G.stepGD (OD.move rfl rfl) rfl rfl rfl rfl rfl ?_
 refine G.stepGD (OD.makeFunc (first := []) (captured := [.tmp 2]) (us := []) (vs := [.pointer (some ⟨g1, 0, none⟩)]) rfl rfl rfl) rfl rfl rfl rfl rfl ?_
 refine G.stepG (OG.call [vx, .func (.func 165) #[] #[.pointer (some ⟨g1, 0, none⟩)]] ent136 rfl rfl rfl rfl (by exact (containsFuncW_w sx ex (hl) (hcr)))) rfl rfl rfl rfl rfl ?_
 rintro _ _ ⟨rfl, rfl⟩
 refine G.stepGD (OD.not rfl rfl) rfl rfl rfl rfl rfl ?_
 refine G.stepD (OD.pickT rfl rfl rfl) rfl rfl rfl ?_
 refine G.stepD (OD.assign rfl rfl) rfl rfl rfl ?_
 refine G.nil (GE.then_ (GC.ret ?_))
 exact GE.body [] 1 (res1 rfl rfl) rfl (⟨congrArg (fun (a0 : Bool) => (.bool (a0) : Value)) ((by rw [wdOk, hg2e]; rfl : (!(x.any (fun (y : Int) => !(inB y 0 (cr - 1)))) : Bool) = wdOk cr x)), rfl⟩)
 have hg2e := hg2
 refine G.at [] 0 (env' := [(0, .agg #[.int .i64 (cr), vcd]), (1, vx), (2, .pointer (some ⟨g1, 0, none⟩)), (4, .bool false), (5, vx), (6, .int .i64 ((x.length : Nat))), (7, .bool false), (8, .bool false)]) (⟨rfl, rfl, rfl, rfl, rfl, rfl, (congrArg (fun b => some (Value.bool b)) hg2e), (congrArg (fun b => some (Value.bool b)) hg2e), trivial⟩) rfl ?_
 replace hg2 := of_decide_eq_false hg2
 refine G.skipG rfl rfl rfl rfl rfl rfl (G.skipG rfl rfl rfl rfl rfl rfl (G.skipG rfl rfl rfl rfl rfl rfl (G.skipG rfl rfl rfl rfl rfl rfl ?_)))
 refine G.stepD (OD.pickF rfl rfl rfl) rfl rfl rfl ?_
 refine G.stepD (OD.assign rfl rfl) rfl rfl rfl ?_
 refine G.nil (GE.then_ (GC.ret ?_))
 exact GE.body [] 1 (res1 rfl rfl) rfl (⟨congrArg (fun (a0 : Bool) => (.bool (a0) : Value)) ((by rw [wdOk, hg2e]; rfl : (false : Bool) = wdOk cr x)), rfl⟩)
set_option maxRecDepth 100000 in
theorem wordOk_w {W : World} {own : List Asn} {cr : Int} {vcd : Value} {cd : List Int} {vx : Value} {x : List Int}  (scd : IsS vcd) (ecd : Ent own fun w => Ints w vcd cd)   (sx : IsS vx) (ex : Ent own fun w => Ints w vx x)  (hl0 : cd.length ≤ 1073741824) (hl : x.length ≤ 9223372036854775807) (hg : Ent own fun w => ∃ m, w.cell? ⟨Tryz.l146_ren.g 1, 0, none⟩ = some (.int .i64 m)) : Spec Tryz.prog 60 [.agg #[.int .i64 (cr), vcd], vx] W own (fun v ow => v = .bool (wordB cr cd x) ∧ ow = own) := by
 refine Spec.enter Tryz.f60 _ Tryz.func60 rfl (n := 12) rfl rfl ?_
 refine GC.seq (GC.region ?_)
 refine G.step (OG.box (cs := [.int .i64 (cr), vcd]) rfl rfl rfl) rfl rfl rfl ?_
 rintro _ _ ⟨g1, rfl, rfl⟩
 refine G.stepD (OD.assign rfl rfl) rfl rfl rfl ?_
 refine G.nil (GE.then_ (GC.seq (GC.region ?_)))
 refine G.stepD (OD.loadAgg rfl ti27 rfl (i := 0) rfl (us := [.int .i64 (cr), vcd]) rfl rfl) rfl rfl rfl ?_
 refine G.step (OG.call [.agg #[.int .i64 (cr), vcd]] ent43 rfl rfl rfl rfl (by exact (isCartan_w scd (Ent.drop 1 ecd) (hl0) ((Ent.drop 1 hg))))) rfl rfl rfl ?_
 rintro _ _ ⟨rfl, rfl⟩
 refine G.stepD (OD.move rfl rfl) rfl rfl rfl ?_
 rcases Bool.eq_false_or_eq_true ((tyS cr cd).isSome) with hg2 | hg2
 have hg2e := hg2
 refine G.at [] 0 (env' := [(0, .agg #[.int .i64 (cr), vcd]), (1, vx), (2, .pointer (some ⟨g1, 0, none⟩)), (4, .bool false), (5, .agg #[.int .i64 (cr), vcd]), (6, .bool true), (7, .bool true)]) (⟨rfl, rfl, rfl, rfl, rfl, (congrArg (fun b => some (Value.bool b)) hg2e), (congrArg (fun b => some (Value.bool b)) hg2e), trivial⟩) rfl ?_
 refine G.stepGD (OD.loadAgg rfl ti27 rfl (i := 0) rfl (us := [.int .i64 (cr), vcd]) rfl rfl) rfl rfl rfl rfl rfl ?_
 refine G.stepGD (OD.move rfl rfl) rfl rfl rfl rfl rfl ?_
 refine G.stepG (OG.call [.agg #[.int .i64 (cr), vcd], vx] ent119 rfl rfl rfl rfl (by exact (isWord_w scd (Ent.drop 1 ecd) sx (Ent.drop 1 ex) (hl) ((tyS_ok hg2e).1)))) rfl rfl rfl rfl rfl ?_
 rintro _ _ ⟨rfl, rfl⟩
 refine G.stepD (OD.pickT rfl rfl rfl) rfl rfl rfl ?_
 refine G.stepD (OD.assign rfl rfl) rfl rfl rfl ?_
 refine G.nil (GE.then_ (GC.ret ?_))
 exact GE.body [] 1 (res1 rfl rfl) rfl (⟨congrArg (fun (a0 : Bool) => (.bool (a0) : Value)) ((by rw [wordB, hg2e]; rfl : (wdOk cr x : Bool) = wordB cr cd x)), rfl⟩)
 have hg2e := hg2
 refine G.at [] 0 (env' := [(0, .agg #[.int .i64 (cr), vcd]), (1, vx), (2, .pointer (some ⟨g1, 0, none⟩)), (4, .bool false), (5, .agg #[.int .i64 (cr), vcd]), (6, .bool false), (7, .bool false)]) (⟨rfl, rfl, rfl, rfl, rfl, (congrArg (fun b => some (Value.bool b)) hg2e), (congrArg (fun b => some (Value.bool b)) hg2e), trivial⟩) rfl ?_
 refine G.skipG rfl rfl rfl rfl rfl rfl (G.skipG rfl rfl rfl rfl rfl rfl (G.skipG rfl rfl rfl rfl rfl rfl ?_))
 refine G.stepD (OD.pickF rfl rfl rfl) rfl rfl rfl ?_
 refine G.stepD (OD.assign rfl rfl) rfl rfl rfl ?_
 refine G.nil (GE.then_ (GC.ret ?_))
 exact GE.body [] 1 (res1 rfl rfl) rfl (⟨congrArg (fun (a0 : Bool) => (.bool (a0) : Value)) ((by rw [wordB, hg2e]; rfl : (false : Bool) = wordB cr cd x)), rfl⟩)
end Go.Proofs.YtgelkakjmbiibaaGreatDoor
