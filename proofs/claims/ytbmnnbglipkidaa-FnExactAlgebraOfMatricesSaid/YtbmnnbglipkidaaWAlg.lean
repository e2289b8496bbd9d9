/-
  An algebra of matrices by the first text: contracts by walks.
-/
import Derived.Test.YtbmnnbglipkidaaWBas
namespace Go.Proofs.Ytbmnnbglipkidaa
set_option linter.unusedVariables false
set_option linter.unusedSimpArgs false
open Go.RowKit
theorem ti29 : TI Try.prog 29 false 1 (.slice none 0 0) [] := ⟨fun w => by kernel_rfl, by kernel_rfl, fun h => by cases h⟩
theorem ent20 : ∀ us w, (callFunc 20 us).run Try.prog w = .ok (.enter 20 us) w := fun us w => by kernel_rfl
theorem ent22 : ∀ us w, (callFunc 22 us).run Try.prog w = .ok (.enter 22 us) w := fun us w => by kernel_rfl
theorem ent23 : ∀ us w, (callFunc 23 us).run Try.prog w = .ok (.enter 23 us) w := fun us w => by kernel_rfl
theorem ent24 : ∀ us w, (callFunc 24 us).run Try.prog w = .ok (.enter 24 us) w := fun us w => by kernel_rfl
theorem ent25 : ∀ us w, (callFunc 25 us).run Try.prog w = .ok (.enter 25 us) w := fun us w => by kernel_rfl
theorem ent26 : ∀ us w, (callFunc 26 us).run Try.prog w = .ok (.enter 26 us) w := fun us w => by kernel_rfl
theorem ent50 : ∀ us w, (callFunc 50 us).run Try.prog w = .ok (.enter 50 us) w := fun us w => by kernel_rfl
set_option maxHeartbeats 4000000 in
set_option maxRecDepth 100000 in
theorem rowA_w {W : World} {own : List Asn} {i : Nat} {j : Nat} {ga gb gf : Nat} {fr fn : Bool} {p cols size r : Int} {m : Nat} {vx : Value} {ux : List Value} {hx : List Hd} {dx : List (List Int)} {vL : Value} {uL : List Value} {vps : Value}  (sx : IsS vx) (ex : Ent own fun w => Hds w vx ux hx) (mx : ∀ k, k < hx.length → Ent own fun w => Ints w (ux.getD k undef) (dx.getD k [])) (lx : ux.length = hx.length) (kx : dx.length = hx.length) (ax : AllS ux)   (sL : IsS vL) (eL : Ent own fun w => Sl w vL ((redE p m dx).1).length 1 uL) (mL : ∀ k, k < ((redE p m dx).1).length → Ent own fun w => Ints w (uL.getD k undef) (((redE p m dx).1).getD k [])) (lL : uL.length = ((redE p m dx).1).length) (aL : AllS uL)   (sps : IsS vps) (eps : Ent own fun w => Ints w vps ((red0 p m dx).2))    (hpp : primeB p = true) (hcols : cols = (m : Int)) (hsz : size = (dx.length : Nat)) (hI : AoI hx dx hx.length m p r) (hij : i < hx.length ∧ j < hx.length) : Spec Try.prog 24 [.int .i64 ((i : Int)), .int .i64 ((j : Int)), .pointer (some ⟨ga, 0, none⟩), .pointer (some ⟨gb, 0, none⟩), .pointer (some ⟨gf, 0, none⟩)] W (box ga 29 [vx] :: box gb 50 [.bool (fr), .int .i64 (p), .int .i64 (cols), .int .i64 (size), vL, vps] :: box gf 4 [.bool (fn)] :: own) (fun v ow => ∃ (r0 : Value), v = r0 ∧ IsS r0 ∧ ow = ints 3 r0 ((cdV p m dx (brK hx dx i j)).2) :: box ga 29 [vx] :: box gb 50 [.bool (fr), .int .i64 (p), .int .i64 (cols), .int .i64 (size), vL, vps] :: box gf 4 [.bool ((fn && zK p m hx dx i j))] :: own) := by
 have hp2 := primeB_range hpp
 have hRw : RwI p dx.length m dx := by rw [kx]; exact hI.rows kx
 have hXI := redE_I hpp hRw
 have hX : RwI p dx.length (m + dx.length) (redE p m dx).1 := hXI.rw (by rw [extE_len])
 have hfl := fr_len hpp hRw
 have h0I := red0_I hpp hRw
 have hn1 := hI.n1
 have hm16 := hI.m16
 refine Spec.enter Try.f24 _ Try.func24 rfl (n := 36) rfl rfl ?_
 refine GC.seq (GC.region ?_)
 refine G.stepD (OD.assign rfl rfl) rfl rfl rfl ?_
 refine G.nil (GE.then_ (GC.seq ?_))
 refine GC.at [] 0 (env' := [(0, .int .i64 ((i : Int))), (1, .int .i64 ((j : Int))), (2, .pointer (some ⟨ga, 0, none⟩)), (3, .pointer (some ⟨gb, 0, none⟩)), (4, .pointer (some ⟨gf, 0, none⟩))]) ⟨rfl, rfl, rfl, rfl, rfl, trivial⟩ rfl ?_
 refine GC.late (σ := [0, 1, 2, 3, 4, 5, 6, 7, 8, 9, 11, 10, 12, 13, 14]) (L := [11]) (its := [⟨13, [], [], [], [], fun _ => vx, fun _ => True, fun _ => []⟩,
     ⟨14, [], [], [], [], fun _ => .int .i64 ((i : Int)), fun _ => True, fun _ => []⟩,
     ⟨15, [(0, 13), (1, 14)], [], [], [], fun _ => elemPtr vx 4 (i), fun _ => True, fun _ => []⟩,
     ⟨16, [(2, 15)], [], [], [], fun _ => .agg #[.int .i64 ((hx.getD (i) hd0).1), .int .i64 ((hx.getD (i) hd0).2.1), .int .i64 ((hx.getD (i) hd0).2.2), (ux.getD (i) undef)], fun _ => True, fun _ => []⟩,
     ⟨17, [], [], [], [], fun _ => vx, fun _ => True, fun _ => []⟩,
     ⟨18, [], [], [], [], fun _ => .int .i64 ((j : Int)), fun _ => True, fun _ => []⟩,
     ⟨19, [(4, 17), (5, 18)], [], [], [], fun _ => elemPtr vx 4 (j), fun _ => True, fun _ => []⟩,
     ⟨20, [(6, 19)], [], [], [], fun _ => .agg #[.int .i64 ((hx.getD (j) hd0).1), .int .i64 ((hx.getD (j) hd0).2.1), .int .i64 ((hx.getD (j) hd0).2.2), (ux.getD (j) undef)], fun _ => True, fun _ => []⟩,
     ⟨21, [(3, 16), (7, 20)], [], [], [8], fun ds => .tuple #[.agg #[.int .i64 ((commF ⟨(hx.getD (i) hd0).1, (hx.getD (i) hd0).2.1, (hx.getD (i) hd0).2.2, dx.getD (i) []⟩ ⟨(hx.getD (j) hd0).1, (hx.getD (j) hd0).2.1, (hx.getD (j) hd0).2.2, dx.getD (j) []⟩).p), .int .i64 ((commF ⟨(hx.getD (i) hd0).1, (hx.getD (i) hd0).2.1, (hx.getD (i) hd0).2.2, dx.getD (i) []⟩ ⟨(hx.getD (j) hd0).1, (hx.getD (j) hd0).2.1, (hx.getD (j) hd0).2.2, dx.getD (j) []⟩).r), .int .i64 ((commF ⟨(hx.getD (i) hd0).1, (hx.getD (i) hd0).2.1, (hx.getD (i) hd0).2.2, dx.getD (i) []⟩ ⟨(hx.getD (j) hd0).1, (hx.getD (j) hd0).2.1, (hx.getD (j) hd0).2.2, dx.getD (j) []⟩).c), ((ds.getD 0 []).getD 0 undef)], .bool (commOk ⟨(hx.getD (i) hd0).1, (hx.getD (i) hd0).2.1, (hx.getD (i) hd0).2.2, dx.getD (i) []⟩ ⟨(hx.getD (j) hd0).1, (hx.getD (j) hd0).2.1, (hx.getD (j) hd0).2.2, dx.getD (j) []⟩)], fun ds => IsS ((ds.getD 0 []).getD 0 undef), fun ds => [ints 3 ((ds.getD 0 []).getD 0 undef) ((commF ⟨(hx.getD (i) hd0).1, (hx.getD (i) hd0).2.1, (hx.getD (i) hd0).2.2, dx.getD (i) []⟩ ⟨(hx.getD (j) hd0).1, (hx.getD (j) hd0).2.1, (hx.getD (j) hd0).2.2, dx.getD (j) []⟩).d)]⟩,
     ⟨12, [(8, 21)], [8], [], [8], fun ds => .tuple #[.agg #[.int .i64 ((commF ⟨(hx.getD (i) hd0).1, (hx.getD (i) hd0).2.1, (hx.getD (i) hd0).2.2, dx.getD (i) []⟩ ⟨(hx.getD (j) hd0).1, (hx.getD (j) hd0).2.1, (hx.getD (j) hd0).2.2, dx.getD (j) []⟩).p), .int .i64 ((commF ⟨(hx.getD (i) hd0).1, (hx.getD (i) hd0).2.1, (hx.getD (i) hd0).2.2, dx.getD (i) []⟩ ⟨(hx.getD (j) hd0).1, (hx.getD (j) hd0).2.1, (hx.getD (j) hd0).2.2, dx.getD (j) []⟩).r), .int .i64 ((commF ⟨(hx.getD (i) hd0).1, (hx.getD (i) hd0).2.1, (hx.getD (i) hd0).2.2, dx.getD (i) []⟩ ⟨(hx.getD (j) hd0).1, (hx.getD (j) hd0).2.1, (hx.getD (j) hd0).2.2, dx.getD (j) []⟩).c), ((ds.getD 0 []).getD 0 undef)], .bool (commOk ⟨(hx.getD (i) hd0).1, (hx.getD (i) hd0).2.1, (hx.getD (i) hd0).2.2, dx.getD (i) []⟩ ⟨(hx.getD (j) hd0).1, (hx.getD (j) hd0).2.1, (hx.getD (j) hd0).2.2, dx.getD (j) []⟩)], fun _ => True, fun _ => []⟩,
     ⟨23, [(9, 12)], [8], [], [8], fun _ => .bool (commOk ⟨(hx.getD (i) hd0).1, (hx.getD (i) hd0).2.1, (hx.getD (i) hd0).2.2, dx.getD (i) []⟩ ⟨(hx.getD (j) hd0).1, (hx.getD (j) hd0).2.1, (hx.getD (j) hd0).2.2, dx.getD (j) []⟩), fun _ => True, fun _ => []⟩,
     ⟨22, [(9, 12)], [8], [], [8], fun ds => .agg #[.int .i64 ((commF ⟨(hx.getD (i) hd0).1, (hx.getD (i) hd0).2.1, (hx.getD (i) hd0).2.2, dx.getD (i) []⟩ ⟨(hx.getD (j) hd0).1, (hx.getD (j) hd0).2.1, (hx.getD (j) hd0).2.2, dx.getD (j) []⟩).p), .int .i64 ((commF ⟨(hx.getD (i) hd0).1, (hx.getD (i) hd0).2.1, (hx.getD (i) hd0).2.2, dx.getD (i) []⟩ ⟨(hx.getD (j) hd0).1, (hx.getD (j) hd0).2.1, (hx.getD (j) hd0).2.2, dx.getD (j) []⟩).r), .int .i64 ((commF ⟨(hx.getD (i) hd0).1, (hx.getD (i) hd0).2.1, (hx.getD (i) hd0).2.2, dx.getD (i) []⟩ ⟨(hx.getD (j) hd0).1, (hx.getD (j) hd0).2.1, (hx.getD (j) hd0).2.2, dx.getD (j) []⟩).c), ((ds.getD 0 []).getD 0 undef)], fun _ => True, fun _ => []⟩,
     ⟨8, [], [], [], [12], fun ds => .pointer (some ⟨(gOf ((ds.getD 0 []).getD 0 undef)), 0, none⟩), fun _ => True, fun ds => [box (gOf ((ds.getD 0 []).getD 0 undef)) 41 [.int .i64 (0), .int .i64 (0), .int .i64 (0), .slice none 0 0]]⟩]) (by kernel_rfl) (by repeat (first | refine PanQ.then_ ?_ | refine PanQ.block ?_ | exact PanQ.body)) (by kernel_rfl) ⟨⟨_, rfl, .inl rfl⟩, trivial⟩ (by kernel_rfl) (POps.cons ?_ (POps.cons ?_ (POps.cons ?_ (POps.cons ?_ (POps.cons ?_ (POps.cons ?_ (POps.cons ?_ (POps.cons ?_ (POps.cons ?_ (POps.cons ?_ (POps.cons ?_ (POps.cons ?_ (POps.cons ?_ POps.nil))))))))))))) ?_
 intro θ R hd
 exact Opp.plain (OG.imp (OD.load rfl ti29 rfl (i := 0) rfl rfl) (by rintro _ _ ⟨rfl, rfl⟩; exact ⟨[], rfl, trivial, rfl⟩)) rfl
 intro θ R hd
 exact Opp.plain (OG.imp (OD.move rfl rfl) (by rintro _ _ ⟨rfl, rfl⟩; exact ⟨[], rfl, trivial, rfl⟩)) rfl
 intro θ R hd
 obtain ⟨h0d, h1d, _⟩ := hd
 exact Opp.plain (OG.imp (OD.indexAddr rfl et29 rfl (Ent.drop 3 ex.app) rfl (by omega)) (by rintro _ _ ⟨rfl, rfl⟩; exact ⟨[], rfl, trivial, rfl⟩)) rfl
 intro θ R hd
 obtain ⟨h2d, _⟩ := hd
 exact Opp.plain (OG.imp (OD.loadHd rfl ti41 rfl (Ent.drop 3 ex.app) (by omega)) (by rintro _ _ ⟨rfl, rfl⟩; exact ⟨[], rfl, trivial, rfl⟩)) rfl
 intro θ R hd
 exact Opp.plain (OG.imp (OD.load rfl ti29 rfl (i := 0) rfl rfl) (by rintro _ _ ⟨rfl, rfl⟩; exact ⟨[], rfl, trivial, rfl⟩)) rfl
 intro θ R hd
 exact Opp.plain (OG.imp (OD.move rfl rfl) (by rintro _ _ ⟨rfl, rfl⟩; exact ⟨[], rfl, trivial, rfl⟩)) rfl
 intro θ R hd
 obtain ⟨h4d, h5d, _⟩ := hd
 exact Opp.plain (OG.imp (OD.indexAddr rfl et29 rfl (Ent.drop 3 ex.app) rfl (by omega)) (by rintro _ _ ⟨rfl, rfl⟩; exact ⟨[], rfl, trivial, rfl⟩)) rfl
 intro θ R hd
 obtain ⟨h6d, _⟩ := hd
 exact Opp.plain (OG.imp (OD.loadHd rfl ti41 rfl (Ent.drop 3 ex.app) (by omega)) (by rintro _ _ ⟨rfl, rfl⟩; exact ⟨[], rfl, trivial, rfl⟩)) rfl
 intro θ R hd
 obtain ⟨h3d, h7d, _⟩ := hd
 exact Opp.plain (OG.imp (OG.call [.agg #[.int .i64 ((hx.getD (i) hd0).1), .int .i64 ((hx.getD (i) hd0).2.1), .int .i64 ((hx.getD (i) hd0).2.2), (ux.getD (i) undef)], .agg #[.int .i64 ((hx.getD (j) hd0).1), .int .i64 ((hx.getD (j) hd0).2.1), .int .i64 ((hx.getD (j) hd0).2.2), (ux.getD (j) undef)]] ent25 rfl rfl rfl rfl (by exact (commutatorOf_w (ax.get (by omega)) (Ent.drop 3 ((mx (i) (by omega)).app)) (ax.get (by omega)) (Ent.drop 3 ((mx (j) (by omega)).app))))) (by rintro _ _ ⟨v1, rfl, hs2, rfl⟩; exact ⟨[v1], rfl, hs2, rfl⟩)) rfl
 intro θ R hd
 obtain ⟨h8d, _⟩ := hd
 exact Opp.plain (OG.imp (OD.move rfl rfl) (by rintro _ _ ⟨rfl, rfl⟩; exact ⟨[], rfl, trivial, rfl⟩)) rfl
 intro θ R hd
 obtain ⟨h9d, _⟩ := hd
 exact Opp.plain (OG.imp (OD.extract rfl rfl rfl) (by rintro _ _ ⟨rfl, rfl⟩; exact ⟨[], rfl, trivial, rfl⟩)) rfl
 intro θ R hd
 obtain ⟨h9d, _⟩ := hd
 exact Opp.plain (OG.imp (OD.extract rfl rfl rfl) (by rintro _ _ ⟨rfl, rfl⟩; exact ⟨[], rfl, trivial, rfl⟩)) rfl
 intro θ R hd
 exact Opp.plain (OG.imp (OG.alloc rfl ti41 (zs := [.int .i64 (0), .int .i64 (0), .int .i64 (0), .slice none 0 0]) rfl) (by rintro _ _ ⟨g3, rfl, rfl⟩; exact ⟨[.pointer (some ⟨g3, 0, none⟩)], rfl, trivial, rfl⟩)) rfl
 intro θ hall
 obtain ⟨_, _, _, _, _, _, _, _, h8a, _, _, _, h12a, _⟩ := hall
 refine G.at [] 0 (env' := [(3, .pointer (some ⟨gb, 0, none⟩)), (4, .pointer (some ⟨gf, 0, none⟩)), (23, .bool (commOk ⟨(hx.getD (i) hd0).1, (hx.getD (i) hd0).2.1, (hx.getD (i) hd0).2.2, dx.getD (i) []⟩ ⟨(hx.getD (j) hd0).1, (hx.getD (j) hd0).2.1, (hx.getD (j) hd0).2.2, dx.getD (j) []⟩)), (22, .agg #[.int .i64 ((commF ⟨(hx.getD (i) hd0).1, (hx.getD (i) hd0).2.1, (hx.getD (i) hd0).2.2, dx.getD (i) []⟩ ⟨(hx.getD (j) hd0).1, (hx.getD (j) hd0).2.1, (hx.getD (j) hd0).2.2, dx.getD (j) []⟩).p), .int .i64 ((commF ⟨(hx.getD (i) hd0).1, (hx.getD (i) hd0).2.1, (hx.getD (i) hd0).2.2, dx.getD (i) []⟩ ⟨(hx.getD (j) hd0).1, (hx.getD (j) hd0).2.1, (hx.getD (j) hd0).2.2, dx.getD (j) []⟩).r), .int .i64 ((commF ⟨(hx.getD (i) hd0).1, (hx.getD (i) hd0).2.1, (hx.getD (i) hd0).2.2, dx.getD (i) []⟩ ⟨(hx.getD (j) hd0).1, (hx.getD (j) hd0).2.1, (hx.getD (j) hd0).2.2, dx.getD (j) []⟩).c), ((θ 8).getD 0 undef)]), (8, .pointer (some ⟨(gOf ((θ 12).getD 0 undef)), 0, none⟩))]) ⟨rfl, rfl, rfl, rfl, rfl, trivial⟩ (own' := ints 3 ((θ 8).getD 0 undef) ((commF ⟨(hx.getD (i) hd0).1, (hx.getD (i) hd0).2.1, (hx.getD (i) hd0).2.2, dx.getD (i) []⟩ ⟨(hx.getD (j) hd0).1, (hx.getD (j) hd0).2.1, (hx.getD (j) hd0).2.2, dx.getD (j) []⟩).d) :: box (gOf ((θ 12).getD 0 undef)) 41 [.int .i64 (0), .int .i64 (0), .int .i64 (0), .slice none 0 0] :: box ga 29 [vx] :: box gb 50 [.bool (fr), .int .i64 (p), .int .i64 (cols), .int .i64 (size), vL, vps] :: box gf 4 [.bool (fn)] :: own) rfl ?_
 have hs4 : IsS ((θ 8).getD 0 undef) := h8a
 clear h8a
 generalize ((θ 8).getD 0 undef) = v5 at *
 clear h12a
 generalize (gOf ((θ 12).getD 0 undef)) = b6 at *
 show G _ _ _ [_, _] _ _ _ _
 refine G.stepD0 (OD.store rfl ti41 rfl rfl (us := [.int .i64 ((commF ⟨(hx.getD (i) hd0).1, (hx.getD (i) hd0).2.1, (hx.getD (i) hd0).2.2, dx.getD (i) []⟩ ⟨(hx.getD (j) hd0).1, (hx.getD (j) hd0).2.1, (hx.getD (j) hd0).2.2, dx.getD (j) []⟩).p), .int .i64 ((commF ⟨(hx.getD (i) hd0).1, (hx.getD (i) hd0).2.1, (hx.getD (i) hd0).2.2, dx.getD (i) []⟩ ⟨(hx.getD (j) hd0).1, (hx.getD (j) hd0).2.1, (hx.getD (j) hd0).2.2, dx.getD (j) []⟩).r), .int .i64 ((commF ⟨(hx.getD (i) hd0).1, (hx.getD (i) hd0).2.1, (hx.getD (i) hd0).2.2, dx.getD (i) []⟩ ⟨(hx.getD (j) hd0).1, (hx.getD (j) hd0).2.1, (hx.getD (j) hd0).2.2, dx.getD (j) []⟩).c), v5]) rfl rfl (allC rfl (allC rfl (allC rfl (allC (IsS.one hs4) rfl)))) (i := 1) rfl rfl) rfl rfl ?_
 refine G.stepD (OD.assign rfl rfl) rfl rfl rfl ?_
 refine G.nil (GE.then_ (GC.seq (GC.region ?_)))
 refine G.stepD (OD.loadAgg rfl ti50 rfl (i := 3) rfl (us := [.bool (fr), .int .i64 (p), .int .i64 (cols), .int .i64 (size), vL, vps]) rfl rfl) rfl rfl rfl ?_
 refine G.stepD (OD.fieldAddr rfl rfl fa41_3) rfl rfl rfl ?_
 refine G.stepD (OD.load rfl ti24 rfl (i := 1) rfl rfl) rfl rfl rfl ?_
 refine G.step (OG.call [.agg #[.bool (fr), .int .i64 (p), .int .i64 (cols), .int .i64 (size), vL, vps], v5] ent26 rfl rfl rfl rfl (by exact (coords_w sL (by exact (Ent.drop 5 eL)) (fun k hk => by exact (Ent.drop 5 (mL k hk))) lL aL sps (by exact (Ent.drop 5 eps)) hs4 (Ent.ints (i := 0) rfl) (n := dx.length) (m := m) (hp2) (hcols) (hsz) (fun i hi => hX.rows i (by omega)) (hX.rg) (⟨by rw [hX.len]; exact hfl, by omega⟩) (h0I.pv) (hI.len hij.1 hij.2) (hI.brg hij.1 hij.2) (⟨by omega, hm16⟩)))) rfl rfl rfl ?_
 rintro _ _ ⟨v7, rfl, hs8, rfl⟩
 refine G.stepD (OD.move rfl rfl) rfl rfl rfl ?_
 refine G.stepD (OD.extract rfl rfl rfl) rfl rfl rfl ?_
 refine G.stepD (OD.extract rfl rfl rfl) rfl rfl rfl ?_
 refine G.stepD (OD.assign rfl rfl) rfl rfl rfl ?_
 refine G.stepD (OD.assign rfl rfl) rfl rfl rfl ?_
 refine G.nil (GE.then_ (GC.seq (GC.region ?_)))
 refine G.stepD (OD.load rfl ti4 rfl (i := 5) rfl rfl) rfl rfl rfl ?_
 refine G.stepD (OD.move rfl rfl) rfl rfl rfl ?_
 rcases Bool.eq_false_or_eq_true (fn) with hg9 | hg9
 have hg9e := hg9
 refine G.at [] 0 (env' := [(3, .pointer (some ⟨gb, 0, none⟩)), (4, .pointer (some ⟨gf, 0, none⟩)), (23, .bool (commOk ⟨(hx.getD (i) hd0).1, (hx.getD (i) hd0).2.1, (hx.getD (i) hd0).2.2, dx.getD (i) []⟩ ⟨(hx.getD (j) hd0).1, (hx.getD (j) hd0).2.1, (hx.getD (j) hd0).2.2, dx.getD (j) []⟩)), (22, .agg #[.int .i64 ((commF ⟨(hx.getD (i) hd0).1, (hx.getD (i) hd0).2.1, (hx.getD (i) hd0).2.2, dx.getD (i) []⟩ ⟨(hx.getD (j) hd0).1, (hx.getD (j) hd0).2.1, (hx.getD (j) hd0).2.2, dx.getD (j) []⟩).p), .int .i64 ((commF ⟨(hx.getD (i) hd0).1, (hx.getD (i) hd0).2.1, (hx.getD (i) hd0).2.2, dx.getD (i) []⟩ ⟨(hx.getD (j) hd0).1, (hx.getD (j) hd0).2.1, (hx.getD (j) hd0).2.2, dx.getD (j) []⟩).r), .int .i64 ((commF ⟨(hx.getD (i) hd0).1, (hx.getD (i) hd0).2.1, (hx.getD (i) hd0).2.2, dx.getD (i) []⟩ ⟨(hx.getD (j) hd0).1, (hx.getD (j) hd0).2.1, (hx.getD (j) hd0).2.2, dx.getD (j) []⟩).c), v5]), (8, .pointer (some ⟨b6, 0, none⟩)), (9, .bool (commOk ⟨(hx.getD (i) hd0).1, (hx.getD (i) hd0).2.1, (hx.getD (i) hd0).2.2, dx.getD (i) []⟩ ⟨(hx.getD (j) hd0).1, (hx.getD (j) hd0).2.1, (hx.getD (j) hd0).2.2, dx.getD (j) []⟩)), (25, .agg #[.bool (fr), .int .i64 (p), .int .i64 (cols), .int .i64 (size), vL, vps]), (26, .pointer (some ⟨b6, 3, none⟩)), (27, v5), (28, .tuple #[v7, .bool (zeroB (cdA p m dx.length ((redE p m dx).1) ((red0 p m dx).2) ((commF ⟨(hx.getD (i) hd0).1, (hx.getD (i) hd0).2.1, (hx.getD (i) hd0).2.2, dx.getD (i) []⟩ ⟨(hx.getD (j) hd0).1, (hx.getD (j) hd0).2.1, (hx.getD (j) hd0).2.2, dx.getD (j) []⟩).d) ((red0 p m dx).2).length).1)]), (24, .tuple #[v7, .bool (zeroB (cdA p m dx.length ((redE p m dx).1) ((red0 p m dx).2) ((commF ⟨(hx.getD (i) hd0).1, (hx.getD (i) hd0).2.1, (hx.getD (i) hd0).2.2, dx.getD (i) []⟩ ⟨(hx.getD (j) hd0).1, (hx.getD (j) hd0).2.1, (hx.getD (j) hd0).2.2, dx.getD (j) []⟩).d) ((red0 p m dx).2).length).1)]), (29, v7), (30, .bool (zeroB (cdA p m dx.length ((redE p m dx).1) ((red0 p m dx).2) ((commF ⟨(hx.getD (i) hd0).1, (hx.getD (i) hd0).2.1, (hx.getD (i) hd0).2.2, dx.getD (i) []⟩ ⟨(hx.getD (j) hd0).1, (hx.getD (j) hd0).2.1, (hx.getD (j) hd0).2.2, dx.getD (j) []⟩).d) ((red0 p m dx).2).length).1)), (10, v7), (11, .bool (zeroB (cdA p m dx.length ((redE p m dx).1) ((red0 p m dx).2) ((commF ⟨(hx.getD (i) hd0).1, (hx.getD (i) hd0).2.1, (hx.getD (i) hd0).2.2, dx.getD (i) []⟩ ⟨(hx.getD (j) hd0).1, (hx.getD (j) hd0).2.1, (hx.getD (j) hd0).2.2, dx.getD (j) []⟩).d) ((red0 p m dx).2).length).1)), (31, .bool true), (32, .bool true)]) (⟨rfl, rfl, rfl, rfl, rfl, rfl, rfl, rfl, rfl, rfl, rfl, rfl, rfl, rfl, rfl, (congrArg (fun b => some (Value.bool b)) hg9e), (congrArg (fun b => some (Value.bool b)) hg9e), trivial⟩) rfl ?_
 refine G.stepGD (OD.move rfl rfl) rfl rfl rfl rfl rfl ?_
 refine G.stepD (OD.pickT rfl rfl rfl) rfl rfl rfl ?_
 refine G.stepD0 (OD.store rfl ti4 rfl rfl (us := [.bool (zeroB (cdA p m dx.length ((redE p m dx).1) ((red0 p m dx).2) ((commF ⟨(hx.getD (i) hd0).1, (hx.getD (i) hd0).2.1, (hx.getD (i) hd0).2.2, dx.getD (i) []⟩ ⟨(hx.getD (j) hd0).1, (hx.getD (j) hd0).2.1, (hx.getD (j) hd0).2.2, dx.getD (j) []⟩).d) ((red0 p m dx).2).length).1)]) rfl rfl rfl (i := 5) rfl rfl) rfl rfl ?_
 refine G.nil (GE.then_ (GC.seq (GC.region ?_)))
 refine G.stepD (OD.move rfl rfl) rfl rfl rfl ?_
 refine G.stepD (OD.assign rfl rfl) rfl rfl rfl ?_
 refine G.nil (GE.then_ (GC.ret ?_))
 refine GE.ownEq (own' := ints 3 v7 ((cdA p m dx.length ((redE p m dx).1) ((red0 p m dx).2) ((commF ⟨(hx.getD (i) hd0).1, (hx.getD (i) hd0).2.1, (hx.getD (i) hd0).2.2, dx.getD (i) []⟩ ⟨(hx.getD (j) hd0).1, (hx.getD (j) hd0).2.1, (hx.getD (j) hd0).2.2, dx.getD (j) []⟩).d) ((red0 p m dx).2).length).2) :: ints 3 v5 ((commF ⟨(hx.getD (i) hd0).1, (hx.getD (i) hd0).2.1, (hx.getD (i) hd0).2.2, dx.getD (i) []⟩ ⟨(hx.getD (j) hd0).1, (hx.getD (j) hd0).2.1, (hx.getD (j) hd0).2.2, dx.getD (j) []⟩).d) :: box b6 41 [.int .i64 ((commF ⟨(hx.getD (i) hd0).1, (hx.getD (i) hd0).2.1, (hx.getD (i) hd0).2.2, dx.getD (i) []⟩ ⟨(hx.getD (j) hd0).1, (hx.getD (j) hd0).2.1, (hx.getD (j) hd0).2.2, dx.getD (j) []⟩).p), .int .i64 ((commF ⟨(hx.getD (i) hd0).1, (hx.getD (i) hd0).2.1, (hx.getD (i) hd0).2.2, dx.getD (i) []⟩ ⟨(hx.getD (j) hd0).1, (hx.getD (j) hd0).2.1, (hx.getD (j) hd0).2.2, dx.getD (j) []⟩).r), .int .i64 ((commF ⟨(hx.getD (i) hd0).1, (hx.getD (i) hd0).2.1, (hx.getD (i) hd0).2.2, dx.getD (i) []⟩ ⟨(hx.getD (j) hd0).1, (hx.getD (j) hd0).2.1, (hx.getD (j) hd0).2.2, dx.getD (j) []⟩).c), v5] :: box ga 29 [vx] :: box gb 50 [.bool (fr), .int .i64 (p), .int .i64 (cols), .int .i64 (size), vL, vps] :: box gf 4 [.bool ((fn && zK p m hx dx i j))] :: own) (by (try dsimp only); rw [hg9e] <;> rfl) ?_
 skip
 exact GE.body [0, 2, 2, 2] 2 (res1 rfl rfl) rfl (⟨v7, rfl, hs8, rfl⟩)
 have hg9e := hg9
 refine G.at [] 0 (env' := [(3, .pointer (some ⟨gb, 0, none⟩)), (4, .pointer (some ⟨gf, 0, none⟩)), (23, .bool (commOk ⟨(hx.getD (i) hd0).1, (hx.getD (i) hd0).2.1, (hx.getD (i) hd0).2.2, dx.getD (i) []⟩ ⟨(hx.getD (j) hd0).1, (hx.getD (j) hd0).2.1, (hx.getD (j) hd0).2.2, dx.getD (j) []⟩)), (22, .agg #[.int .i64 ((commF ⟨(hx.getD (i) hd0).1, (hx.getD (i) hd0).2.1, (hx.getD (i) hd0).2.2, dx.getD (i) []⟩ ⟨(hx.getD (j) hd0).1, (hx.getD (j) hd0).2.1, (hx.getD (j) hd0).2.2, dx.getD (j) []⟩).p), .int .i64 ((commF ⟨(hx.getD (i) hd0).1, (hx.getD (i) hd0).2.1, (hx.getD (i) hd0).2.2, dx.getD (i) []⟩ ⟨(hx.getD (j) hd0).1, (hx.getD (j) hd0).2.1, (hx.getD (j) hd0).2.2, dx.getD (j) []⟩).r), .int .i64 ((commF ⟨(hx.getD (i) hd0).1, (hx.getD (i) hd0).2.1, (hx.getD (i) hd0).2.2, dx.getD (i) []⟩ ⟨(hx.getD (j) hd0).1, (hx.getD (j) hd0).2.1, (hx.getD (j) hd0).2.2, dx.getD (j) []⟩).c), v5]), (8, .pointer (some ⟨b6, 0, none⟩)), (9, .bool (commOk ⟨(hx.getD (i) hd0).1, (hx.getD (i) hd0).2.1, (hx.getD (i) hd0).2.2, dx.getD (i) []⟩ ⟨(hx.getD (j) hd0).1, (hx.getD (j) hd0).2.1, (hx.getD (j) hd0).2.2, dx.getD (j) []⟩)), (25, .agg #[.bool (fr), .int .i64 (p), .int .i64 (cols), .int .i64 (size), vL, vps]), (26, .pointer (some ⟨b6, 3, none⟩)), (27, v5), (28, .tuple #[v7, .bool (zeroB (cdA p m dx.length ((redE p m dx).1) ((red0 p m dx).2) ((commF ⟨(hx.getD (i) hd0).1, (hx.getD (i) hd0).2.1, (hx.getD (i) hd0).2.2, dx.getD (i) []⟩ ⟨(hx.getD (j) hd0).1, (hx.getD (j) hd0).2.1, (hx.getD (j) hd0).2.2, dx.getD (j) []⟩).d) ((red0 p m dx).2).length).1)]), (24, .tuple #[v7, .bool (zeroB (cdA p m dx.length ((redE p m dx).1) ((red0 p m dx).2) ((commF ⟨(hx.getD (i) hd0).1, (hx.getD (i) hd0).2.1, (hx.getD (i) hd0).2.2, dx.getD (i) []⟩ ⟨(hx.getD (j) hd0).1, (hx.getD (j) hd0).2.1, (hx.getD (j) hd0).2.2, dx.getD (j) []⟩).d) ((red0 p m dx).2).length).1)]), (29, v7), (30, .bool (zeroB (cdA p m dx.length ((redE p m dx).1) ((red0 p m dx).2) ((commF ⟨(hx.getD (i) hd0).1, (hx.getD (i) hd0).2.1, (hx.getD (i) hd0).2.2, dx.getD (i) []⟩ ⟨(hx.getD (j) hd0).1, (hx.getD (j) hd0).2.1, (hx.getD (j) hd0).2.2, dx.getD (j) []⟩).d) ((red0 p m dx).2).length).1)), (10, v7), (11, .bool (zeroB (cdA p m dx.length ((redE p m dx).1) ((red0 p m dx).2) ((commF ⟨(hx.getD (i) hd0).1, (hx.getD (i) hd0).2.1, (hx.getD (i) hd0).2.2, dx.getD (i) []⟩ ⟨(hx.getD (j) hd0).1, (hx.getD (j) hd0).2.1, (hx.getD (j) hd0).2.2, dx.getD (j) []⟩).d) ((red0 p m dx).2).length).1)), (31, .bool false), (32, .bool false)]) (⟨rfl, rfl, rfl, rfl, rfl, rfl, rfl, rfl, rfl, rfl, rfl, rfl, rfl, rfl, rfl, (congrArg (fun b => some (Value.bool b)) hg9e), (congrArg (fun b => some (Value.bool b)) hg9e), trivial⟩) rfl ?_
 refine G.skipG rfl rfl rfl rfl rfl rfl ?_
 refine G.stepD (OD.pickF rfl rfl rfl) rfl rfl rfl ?_
 refine G.stepD0 (OD.store rfl ti4 rfl rfl (us := [.bool false]) rfl rfl rfl (i := 5) rfl rfl) rfl rfl ?_
 refine G.nil (GE.then_ (GC.seq (GC.region ?_)))
 refine G.stepD (OD.move rfl rfl) rfl rfl rfl ?_
 refine G.stepD (OD.assign rfl rfl) rfl rfl rfl ?_
 refine G.nil (GE.then_ (GC.ret ?_))
 refine GE.ownEq (own' := ints 3 v7 ((cdA p m dx.length ((redE p m dx).1) ((red0 p m dx).2) ((commF ⟨(hx.getD (i) hd0).1, (hx.getD (i) hd0).2.1, (hx.getD (i) hd0).2.2, dx.getD (i) []⟩ ⟨(hx.getD (j) hd0).1, (hx.getD (j) hd0).2.1, (hx.getD (j) hd0).2.2, dx.getD (j) []⟩).d) ((red0 p m dx).2).length).2) :: ints 3 v5 ((commF ⟨(hx.getD (i) hd0).1, (hx.getD (i) hd0).2.1, (hx.getD (i) hd0).2.2, dx.getD (i) []⟩ ⟨(hx.getD (j) hd0).1, (hx.getD (j) hd0).2.1, (hx.getD (j) hd0).2.2, dx.getD (j) []⟩).d) :: box b6 41 [.int .i64 ((commF ⟨(hx.getD (i) hd0).1, (hx.getD (i) hd0).2.1, (hx.getD (i) hd0).2.2, dx.getD (i) []⟩ ⟨(hx.getD (j) hd0).1, (hx.getD (j) hd0).2.1, (hx.getD (j) hd0).2.2, dx.getD (j) []⟩).p), .int .i64 ((commF ⟨(hx.getD (i) hd0).1, (hx.getD (i) hd0).2.1, (hx.getD (i) hd0).2.2, dx.getD (i) []⟩ ⟨(hx.getD (j) hd0).1, (hx.getD (j) hd0).2.1, (hx.getD (j) hd0).2.2, dx.getD (j) []⟩).r), .int .i64 ((commF ⟨(hx.getD (i) hd0).1, (hx.getD (i) hd0).2.1, (hx.getD (i) hd0).2.2, dx.getD (i) []⟩ ⟨(hx.getD (j) hd0).1, (hx.getD (j) hd0).2.1, (hx.getD (j) hd0).2.2, dx.getD (j) []⟩).c), v5] :: box ga 29 [vx] :: box gb 50 [.bool (fr), .int .i64 (p), .int .i64 (cols), .int .i64 (size), vL, vps] :: box gf 4 [.bool ((fn && zK p m hx dx i j))] :: own) (by (try dsimp only); rw [hg9e] <;> rfl) ?_
 skip
 exact GE.body [0, 2, 2, 2] 2 (res1 rfl rfl) rfl (⟨v7, rfl, hs8, rfl⟩)
set_option maxHeartbeats 4000000 in
set_option maxRecDepth 100000 in
theorem tableA_w {W : World} {own : List Asn} {pz : Int} {nz : Int} {ga gb gf : Nat} {fr fn : Bool} {p cols size r : Int} {m : Nat} {vx : Value} {ux : List Value} {hx : List Hd} {dx : List (List Int)} {vL : Value} {uL : List Value} {vps : Value}  (sx : IsS vx) (ex : Ent own fun w => Hds w vx ux hx) (mx : ∀ k, k < hx.length → Ent own fun w => Ints w (ux.getD k undef) (dx.getD k [])) (lx : ux.length = hx.length) (kx : dx.length = hx.length) (ax : AllS ux)   (sL : IsS vL) (eL : Ent own fun w => Sl w vL ((redE p m dx).1).length 1 uL) (mL : ∀ k, k < ((redE p m dx).1).length → Ent own fun w => Ints w (uL.getD k undef) (((redE p m dx).1).getD k [])) (lL : uL.length = ((redE p m dx).1).length) (aL : AllS uL)   (sps : IsS vps) (eps : Ent own fun w => Ints w vps ((red0 p m dx).2))  (hpp : primeB p = true) (hcols : cols = (m : Int)) (hsz : size = (dx.length : Nat)) (hI : AoI hx dx hx.length m p r) (hpz : pz = p) (hnz : nz = (hx.length : Nat)) : Spec Try.prog 23 [.int .i64 (pz), .int .i64 (nz), .func (.func 24) #[] #[.pointer (some ⟨ga, 0, none⟩), .pointer (some ⟨gb, 0, none⟩), .pointer (some ⟨gf, 0, none⟩)]] W (box ga 29 [vx] :: box gb 50 [.bool (fr), .int .i64 (p), .int .i64 (cols), .int .i64 (size), vL, vps] :: box gf 4 [.bool (fn)] :: own) (fun v ow => ∃ (v0 : Value) (d0 : List Int), v = .agg #[.int .i64 pz, .int .i64 nz, v0] ∧ IsS v0 ∧ (TbG p hx.length (vK p m hx dx) hx.length 0 0 d0) ∧ ow = ints 3 v0 d0 :: box ga 29 [vx] :: box gb 50 [.bool (fr), .int .i64 (p), .int .i64 (cols), .int .i64 (size), vL, vps] :: box gf 4 [.bool ((fn && tfS p m hx dx hx.length 0))] :: own) := by
 have hp2 := primeB_range hpp
 have hRw : RwI p dx.length m dx := by rw [kx]; exact hI.rows kx
 have hXI := redE_I hpp hRw
 have hX : RwI p dx.length (m + dx.length) (redE p m dx).1 := hXI.rw (by rw [extE_len])
 have hfl := fr_len hpp hRw
 have h0I := red0_I hpp hRw
 have hn1 := hI.n1
 have hm16 := hI.m16
 have hcu := cubeB hnz hn1.2
 refine Spec.enter Try.f23 _ Try.func23 rfl (n := 72) rfl rfl ?_
 refine GC.seq (GC.region ?_)
 refine G.step (OG.alloc rfl ti26 (zs := [.int .i64 (0), .int .i64 (0), .slice none 0 0]) rfl) rfl rfl rfl ?_
 rintro _ _ ⟨g1, rfl, rfl⟩
 refine G.nil (GE.then_ (GC.seq (GC.region ?_)))
 refine G.stepD (OD.move rfl rfl) rfl rfl rfl ?_
 refine G.stepD (OD.move rfl rfl) rfl rfl rfl ?_
 refine G.stepD (OD.move rfl rfl) rfl rfl rfl ?_
 refine G.stepD (OD.move rfl rfl) rfl rfl rfl ?_
 refine G.stepD (OD.mulI rfl rfl rfl (by omega)) rfl rfl rfl ?_
 refine G.stepD (OD.move rfl rfl) rfl rfl rfl ?_
 refine G.stepD (OD.mulI rfl rfl rfl (by omega)) rfl rfl rfl ?_
 refine G.step (OG.makeInts rfl et24 rfl rfl (by omega)) rfl rfl rfl ?_
 rintro v2 _ ⟨hs3, rfl⟩
 refine G.stepD (OD.build (idx := [0, 1, 2]) (xs := [.tmp 12, .tmp 13, .tmp 19]) (vs := [.int .i64 (pz), .int .i64 (nz), v2]) (cs := [[.int .i64 (pz)], [.int .i64 (nz)], [v2]]) (zs := [.int .i64 (0), .int .i64 (0), .slice none 0 0]) (r := [.int .i64 (pz), .int .i64 (nz), v2]) rfl ti26 rfl rfl rfl ⟨rfl, ⟨rfl, ⟨(one_cells (IsS.one hs3)), trivial⟩⟩⟩ rfl) rfl rfl rfl ?_
 refine G.step (OG.alloc rfl ti26 (zs := [.int .i64 (0), .int .i64 (0), .slice none 0 0]) rfl) rfl rfl rfl ?_
 rintro _ _ ⟨g4, rfl, rfl⟩
 refine G.stepD0 (OD.store rfl ti26 rfl rfl (us := [.int .i64 (pz), .int .i64 (nz), v2]) rfl rfl (allC rfl (allC rfl (allC (IsS.one hs3) rfl))) (i := 0) rfl rfl) rfl rfl ?_
 refine G.nil (GE.then_ (GC.seq (GC.seq ?_)))
 refine GC.ownEq (own' := box g4 26 [.int .i64 (pz), .int .i64 (nz), v2] :: ints 3 v2 (List.replicate (hx.length * hx.length * hx.length) 0) :: box g1 26 [.int .i64 (0), .int .i64 (0), .slice none 0 0] :: box ga 29 [vx] :: box gb 50 [.bool (fr), .int .i64 (p), .int .i64 (cols), .int .i64 (size), vL, vps] :: box gf 4 [.bool (fn)] :: own) (by rw [hcu.2.2] <;> rfl) ?_
 refine GC.region ?_
 refine G.stepD (OD.move rfl rfl) rfl rfl rfl ?_
 refine G.stepD (OD.move rfl rfl) rfl rfl rfl ?_
 refine G.nil (GE.then_ (GC.block ?_))
 refine GC.ownEq (own' := box g4 26 [.int .i64 (pz), .int .i64 (nz), v2] :: ints 3 v2 (List.replicate (hx.length * hx.length * hx.length) 0) :: box g1 26 [.int .i64 (0), .int .i64 (0), .slice none 0 0] :: box ga 29 [vx] :: box gb 50 [.bool (fr), .int .i64 (p), .int .i64 (cols), .int .i64 (size), vL, vps] :: box gf 4 [.bool ((fn && tfS p m hx dx 0 0))] :: own) (by (try dsimp only); rw [tfS_zero, Bool.and_true] <;> rfl) ?_
 refine GC.loop (ι := Nat × List Int) (fun ⟨i, ys⟩ => [(0, .int .i64 (pz)), (1, .int .i64 (nz)), (2, .func (.func 24) #[] #[.pointer (some ⟨ga, 0, none⟩), .pointer (some ⟨gb, 0, none⟩), .pointer (some ⟨gf, 0, none⟩)]), (6, .pointer (some ⟨g1, 0, none⟩)), (7, .pointer (some ⟨g4, 0, none⟩)), (21, .int .i64 (nz)), (22, .int .i64 ((i : Int)))]) (fun ⟨i, ys⟩ => box g4 26 [.int .i64 (pz), .int .i64 (nz), v2] :: ints 3 v2 ys :: box g1 26 [.int .i64 (0), .int .i64 (0), .slice none 0 0] :: box ga 29 [vx] :: box gb 50 [.bool (fr), .int .i64 (p), .int .i64 (cols), .int .i64 (size), vL, vps] :: box gf 4 [.bool ((fn && tfS p m hx dx i 0))] :: own) (fun ⟨i, ys⟩ => (i ≤ hx.length) ∧ (TbG p hx.length (vK p m hx dx) i 0 0 ys)) (fun ⟨i, ys⟩ => hx.length - i) (0, List.replicate (hx.length * hx.length * hx.length) 0) (⟨by omega, TbG.new⟩) ⟨rfl, rfl, rfl, rfl, rfl, rfl, rfl, trivial⟩ [] 0 rfl ?_
 rintro ⟨i, ys⟩ ⟨hi, hT0⟩
 refine GC.seq (GC.region ?_)
 refine G.stepD (OD.lss rfl rfl rfl) rfl rfl rfl ?_
 refine G.nil (GE.then_ (GC.seq ?_))
 refine GC.cond rfl (fun hc5 => ?_) (fun hc5 => ?_)
 replace hc5 := of_decide_eq_true hc5
 refine GC.skip (GE.then_ (GC.seq (GC.block (GC.seq (GC.region ?_)))))
 refine G.stepD (OD.move rfl rfl) rfl rfl rfl ?_
 refine G.stepD (OD.assign rfl rfl) rfl rfl rfl ?_
 refine G.nil (GE.then_ (GC.seq (GC.region ?_)))
 refine G.stepD (OD.move rfl rfl) rfl rfl rfl ?_
 refine G.stepD (OD.move rfl rfl) rfl rfl rfl ?_
 refine G.nil (GE.then_ (GC.block ?_))
 refine GC.loop (ι := Nat × List Int) (fun ⟨j, zs⟩ => [(0, .int .i64 (pz)), (1, .int .i64 (nz)), (2, .func (.func 24) #[] #[.pointer (some ⟨ga, 0, none⟩), .pointer (some ⟨gb, 0, none⟩), .pointer (some ⟨gf, 0, none⟩)]), (6, .pointer (some ⟨g1, 0, none⟩)), (7, .pointer (some ⟨g4, 0, none⟩)), (21, .int .i64 (nz)), (22, .int .i64 ((i : Int))), (8, .int .i64 ((i : Int))), (25, .int .i64 ((i : Int))), (26, .int .i64 ((j : Int)))]) (fun ⟨j, zs⟩ => box g4 26 [.int .i64 (pz), .int .i64 (nz), v2] :: ints 3 v2 zs :: box g1 26 [.int .i64 (0), .int .i64 (0), .slice none 0 0] :: box ga 29 [vx] :: box gb 50 [.bool (fr), .int .i64 (p), .int .i64 (cols), .int .i64 (size), vL, vps] :: box gf 4 [.bool ((fn && tfS p m hx dx i j))] :: own) (fun ⟨j, zs⟩ => (j ≤ i) ∧ (TbG p hx.length (vK p m hx dx) i j 0 zs)) (fun ⟨j, zs⟩ => i - j) (0, ys) (⟨by omega, hT0⟩) ⟨rfl, rfl, rfl, rfl, rfl, rfl, rfl, rfl, rfl, rfl, trivial⟩ [] 0 rfl ?_
 rintro ⟨j, zs⟩ ⟨hj, hT1⟩
 refine GC.seq (GC.region ?_)
 refine G.stepD (OD.lss rfl rfl rfl) rfl rfl rfl ?_
 refine G.nil (GE.then_ (GC.seq ?_))
 refine GC.cond rfl (fun hc6 => ?_) (fun hc6 => ?_)
 replace hc6 := of_decide_eq_true hc6
 refine GC.skip (GE.then_ (GC.seq (GC.block (GC.seq (GC.region ?_)))))
 refine G.stepD (OD.move rfl rfl) rfl rfl rfl ?_
 refine G.stepD (OD.assign rfl rfl) rfl rfl rfl ?_
 refine G.nil (GE.then_ (GC.seq ?_))
 have hij2 : i < hx.length ∧ j < hx.length := ⟨by omega, by omega⟩
 have hCR := cdV_R hpp hRw (hI.len hij2.1 hij2.2) (hI.brg hij2.1 hij2.2)
 have hvl : (cdV p m dx (brK hx dx i j)).2.length = dx.length := hCR.l2
 refine GC.region ?_
 refine G.stepD (OD.move rfl rfl) rfl rfl rfl ?_
 refine G.stepD (OD.move rfl rfl) rfl rfl rfl ?_
 refine G.stepD (OD.move rfl rfl) rfl rfl rfl ?_
 refine G.at [3, 3, 3] 0 (env' := [(0, .int .i64 (pz)), (1, .int .i64 (nz)), (2, .func (.func 24) #[] #[.pointer (some ⟨ga, 0, none⟩), .pointer (some ⟨gb, 0, none⟩), .pointer (some ⟨gf, 0, none⟩)]), (6, .pointer (some ⟨g1, 0, none⟩)), (7, .pointer (some ⟨g4, 0, none⟩)), (21, .int .i64 (nz)), (22, .int .i64 ((i : Int))), (8, .int .i64 ((i : Int))), (25, .int .i64 ((i : Int))), (26, .int .i64 ((j : Int))), (27, .bool (decide ((j : Int) < (i : Int)))), (28, .int .i64 ((j : Int))), (9, .int .i64 ((j : Int))), (29, .func (.func 24) #[] #[.pointer (some ⟨ga, 0, none⟩), .pointer (some ⟨gb, 0, none⟩), .pointer (some ⟨gf, 0, none⟩)]), (30, .int .i64 ((i : Int))), (31, .int .i64 ((j : Int)))]) ⟨rfl, rfl, rfl, rfl, rfl, rfl, rfl, rfl, rfl, rfl, rfl, rfl, rfl, rfl, rfl, rfl, trivial⟩ (own' := box ga 29 [vx] :: box gb 50 [.bool (fr), .int .i64 (p), .int .i64 (cols), .int .i64 (size), vL, vps] :: box gf 4 [.bool ((fn && tfS p m hx dx i j))] :: box g4 26 [.int .i64 (pz), .int .i64 (nz), v2] :: ints 3 v2 zs :: box g1 26 [.int .i64 (0), .int .i64 (0), .slice none 0 0] :: own) rfl ?_
 refine G.step (OG.call [.int .i64 ((i : Int)), .int .i64 ((j : Int)), .pointer (some ⟨ga, 0, none⟩), .pointer (some ⟨gb, 0, none⟩), .pointer (some ⟨gf, 0, none⟩)] ent24 rfl rfl rfl rfl (by exact (rowA_w sx (Ent.drop 3 ex) (fun k hk => (Ent.drop 3 (mx k hk))) lx kx ax sL (Ent.drop 3 eL) (fun k hk => (Ent.drop 3 (mL k hk))) lL aL sps (Ent.drop 3 eps) (m := m) (hpp) (hcols) (hsz) (hI) (hij2)))) rfl rfl rfl ?_
 rintro v7 _ ⟨_, rfl, hs8, rfl⟩
 refine G.stepD (OD.len rfl rfl et24 rfl (Ent.ints (i := 0) rfl)) rfl rfl rfl ?_
 refine G.stepD (OD.move rfl rfl) rfl rfl rfl ?_
 refine G.nil (GE.then_ (GC.block ?_))
 refine GC.loop (ι := Nat × List Int) (fun ⟨k, us⟩ => [(0, .int .i64 (pz)), (1, .int .i64 (nz)), (2, .func (.func 24) #[] #[.pointer (some ⟨ga, 0, none⟩), .pointer (some ⟨gb, 0, none⟩), .pointer (some ⟨gf, 0, none⟩)]), (6, .pointer (some ⟨g1, 0, none⟩)), (7, .pointer (some ⟨g4, 0, none⟩)), (21, .int .i64 (nz)), (22, .int .i64 ((i : Int))), (8, .int .i64 ((i : Int))), (25, .int .i64 ((i : Int))), (26, .int .i64 ((j : Int))), (9, .int .i64 ((j : Int))), (32, v7), (33, .int .i64 ((((cdV p m dx (brK hx dx i j)).2).length : Nat))), (34, .int .i64 ((k : Int)))]) (fun ⟨k, us⟩ => ints 3 v7 ((cdV p m dx (brK hx dx i j)).2) :: box ga 29 [vx] :: box gb 50 [.bool (fr), .int .i64 (p), .int .i64 (cols), .int .i64 (size), vL, vps] :: box gf 4 [.bool (((fn && tfS p m hx dx i j) && zK p m hx dx i j))] :: box g4 26 [.int .i64 (pz), .int .i64 (nz), v2] :: ints 3 v2 us :: box g1 26 [.int .i64 (0), .int .i64 (0), .slice none 0 0] :: own) (fun ⟨k, us⟩ => (k ≤ hx.length) ∧ (TbG p hx.length (vK p m hx dx) i j k us)) (fun ⟨k, us⟩ => hx.length - k) (0, zs) (⟨by omega, hT1⟩) ⟨rfl, rfl, rfl, rfl, rfl, rfl, rfl, rfl, rfl, rfl, rfl, rfl, rfl, rfl, trivial⟩ [] 0 rfl ?_
 rintro ⟨k, us⟩ ⟨hk, hT2⟩
 refine GC.seq (GC.region ?_)
 refine G.stepD (OD.lss rfl rfl rfl) rfl rfl rfl ?_
 refine G.nil (GE.then_ (GC.seq ?_))
 refine GC.cond rfl (fun hc9 => ?_) (fun hc9 => ?_)
 replace hc9 := of_decide_eq_true hc9
 refine GC.skip (GE.then_ (GC.seq (GC.block (GC.seq (GC.region ?_)))))
 refine G.stepD (OD.move rfl rfl) rfl rfl rfl ?_
 refine G.stepD (OD.indexAddr rfl et24 rfl (Ent.ints (i := 0) rfl) rfl (by omega)) rfl rfl rfl ?_
 refine G.stepD (OD.loadInt rfl ti3 rfl (Ent.ints (i := 0) rfl) (by omega)) rfl rfl rfl ?_
 refine G.stepD (OD.assign rfl rfl) rfl rfl rfl ?_
 refine G.stepD (OD.assign rfl rfl) rfl rfl rfl ?_
 refine G.nil (GE.then_ (GC.seq ?_))
 obtain ⟨q1, hq1⟩ : ∃ q1 : Nat, q1 = (i * hx.length + j) * hx.length + k := ⟨_, rfl⟩
 obtain ⟨q2, hq2⟩ : ∃ q2 : Nat, q2 = (j * hx.length + i) * hx.length + k := ⟨_, rfl⟩
 have ha1 := at3B hnz hn1.2 hij2.1 hij2.2 (show k < hx.length by omega) hq1
 have ha2 := at3B hnz hn1.2 hij2.2 hij2.1 (show k < hx.length by omega) hq2
 have hul := hT2.len
 have hrb : 0 ≤ (cdV p m dx (brK hx dx i j)).2.getD k 0 ∧ (cdV p m dx (brK hx dx i j)).2.getD k 0 < p := hCR.r2 k
 have hrb2 : 0 ≤ (cdV p m dx (brK hx dx i j)).2.getD ((k : Int)).toNat 0 ∧ (cdV p m dx (brK hx dx i j)).2.getD ((k : Int)).toNat 0 < p := hrb
 refine GC.region ?_
 refine G.stepD (OD.fieldAddr rfl rfl fa26_2) rfl rfl rfl ?_
 refine G.stepD (OD.load rfl ti24 rfl (i := 4) rfl rfl) rfl rfl rfl ?_
 refine G.stepD (OD.move rfl rfl) rfl rfl rfl ?_
 refine G.stepD (OD.move rfl rfl) rfl rfl rfl ?_
 refine G.stepD (OD.mulI rfl rfl rfl (by omega)) rfl rfl rfl ?_
 refine G.stepD (OD.move rfl rfl) rfl rfl rfl ?_
 refine G.stepD (OD.addI rfl rfl rfl (by omega)) rfl rfl rfl ?_
 refine G.stepD (OD.move rfl rfl) rfl rfl rfl ?_
 refine G.stepD (OD.mulI rfl rfl rfl (by omega)) rfl rfl rfl ?_
 refine G.stepD (OD.move rfl rfl) rfl rfl rfl ?_
 refine G.stepD (OD.eqv (OD.addI rfl rfl rfl (by omega)) (congrArg (Value.int .i64) ((ha1.2.2.1) : (((((i : Int) * nz) + (j : Int)) * nz) + (k : Int) : Int) = ((q1 : Int))))) rfl rfl rfl ?_
 refine G.stepD (OD.move rfl rfl) rfl rfl rfl ?_
 refine G.stepD (OD.indexAddr rfl et24 rfl (Ent.ints (i := 5) rfl) rfl (by omega)) rfl rfl rfl ?_
 refine G.stepD0 (OD.storeInt rfl ti3 rfl rfl (i := 5) rfl (by omega)) rfl rfl ?_
 refine G.nil (GE.then_ ?_)
 refine GC.at [] 0 (env' := [(0, .int .i64 (pz)), (1, .int .i64 (nz)), (2, .func (.func 24) #[] #[.pointer (some ⟨ga, 0, none⟩), .pointer (some ⟨gb, 0, none⟩), .pointer (some ⟨gf, 0, none⟩)]), (6, .pointer (some ⟨g1, 0, none⟩)), (7, .pointer (some ⟨g4, 0, none⟩)), (21, .int .i64 (nz)), (22, .int .i64 ((i : Int))), (8, .int .i64 ((i : Int))), (25, .int .i64 ((i : Int))), (26, .int .i64 ((j : Int))), (9, .int .i64 ((j : Int))), (32, v7), (33, .int .i64 ((((cdV p m dx (brK hx dx i j)).2).length : Nat))), (34, .int .i64 ((k : Int))), (10, .int .i64 ((k : Int))), (11, .int .i64 (((cdV p m dx (brK hx dx i j)).2).getD (k) 0))]) ⟨rfl, rfl, rfl, rfl, rfl, rfl, rfl, rfl, rfl, rfl, rfl, rfl, rfl, rfl, rfl, rfl, trivial⟩ rfl ?_
 refine GC.par (its := [⟨52, [], [], [], [], fun _ => .pointer (some ⟨g4, 2, none⟩), fun _ => True, fun _ => []⟩,
     ⟨53, [(0, 52)], [], [], [], fun _ => v2, fun _ => True, fun _ => []⟩,
     ⟨54, [], [], [], [], fun _ => .int .i64 ((j : Int)), fun _ => True, fun _ => []⟩,
     ⟨55, [], [], [], [], fun _ => .int .i64 (nz), fun _ => True, fun _ => []⟩,
     ⟨56, [(2, 54), (3, 55)], [], [], [], fun _ => .int .i64 ((j : Int) * nz), fun _ => True, fun _ => []⟩,
     ⟨57, [], [], [], [], fun _ => .int .i64 ((i : Int)), fun _ => True, fun _ => []⟩,
     ⟨58, [(4, 56), (5, 57)], [], [], [], fun _ => .int .i64 (((j : Int) * nz) + (i : Int)), fun _ => True, fun _ => []⟩,
     ⟨59, [], [], [], [], fun _ => .int .i64 (nz), fun _ => True, fun _ => []⟩,
     ⟨60, [(6, 58), (7, 59)], [], [], [], fun _ => .int .i64 ((((j : Int) * nz) + (i : Int)) * nz), fun _ => True, fun _ => []⟩,
     ⟨61, [], [], [], [], fun _ => .int .i64 ((k : Int)), fun _ => True, fun _ => []⟩,
     ⟨62, [(8, 60), (9, 61)], [], [], [], fun _ => .int .i64 ((q2 : Int)), fun _ => True, fun _ => []⟩,
     ⟨63, [], [], [], [], fun _ => .int .i64 (((cdV p m dx (brK hx dx i j)).2).getD (k) 0), fun _ => True, fun _ => []⟩,
     ⟨64, [(11, 63)], [], [], [], fun _ => .int .i64 (0 - ((cdV p m dx (brK hx dx i j)).2).getD (k) 0), fun _ => True, fun _ => []⟩,
     ⟨65, [], [], [], [], fun _ => .int .i64 (pz), fun _ => True, fun _ => []⟩,
     ⟨66, [(12, 64), (13, 65)], [], [], [], fun _ => .int .i64 ((0 - ((cdV p m dx (brK hx dx i j)).2).getD (k) 0) % pz), fun _ => True, fun _ => []⟩,
     ⟨67, [(1, 53), (10, 62)], [], [], [], fun _ => elemPtr v2 1 (q2), fun _ => True, fun _ => []⟩]) (by kernel_rfl) (by kernel_rfl) (POps.cons ?_ (POps.cons ?_ (POps.cons ?_ (POps.cons ?_ (POps.cons ?_ (POps.cons ?_ (POps.cons ?_ (POps.cons ?_ (POps.cons ?_ (POps.cons ?_ (POps.cons ?_ (POps.cons ?_ (POps.cons ?_ (POps.cons ?_ (POps.cons ?_ (POps.cons ?_ POps.nil)))))))))))))))) ?_
 intro θ R hd
 exact Opp.plain (OG.imp (OD.fieldAddr rfl rfl fa26_2) (by rintro _ _ ⟨rfl, rfl⟩; exact ⟨[], rfl, trivial, rfl⟩)) rfl
 intro θ R hd
 obtain ⟨h0d, _⟩ := hd
 exact Opp.plain (OG.imp (OD.load rfl ti24 rfl (i := 4) rfl rfl) (by rintro _ _ ⟨rfl, rfl⟩; exact ⟨[], rfl, trivial, rfl⟩)) rfl
 intro θ R hd
 exact Opp.plain (OG.imp (OD.move rfl rfl) (by rintro _ _ ⟨rfl, rfl⟩; exact ⟨[], rfl, trivial, rfl⟩)) rfl
 intro θ R hd
 exact Opp.plain (OG.imp (OD.move rfl rfl) (by rintro _ _ ⟨rfl, rfl⟩; exact ⟨[], rfl, trivial, rfl⟩)) rfl
 intro θ R hd
 obtain ⟨h2d, h3d, _⟩ := hd
 exact Opp.plain (OG.imp (OD.mulI rfl rfl rfl (by first | omega | (simp only [List.length_set, List.length_replicate]; omega))) (by rintro _ _ ⟨rfl, rfl⟩; exact ⟨[], rfl, trivial, rfl⟩)) rfl
 intro θ R hd
 exact Opp.plain (OG.imp (OD.move rfl rfl) (by rintro _ _ ⟨rfl, rfl⟩; exact ⟨[], rfl, trivial, rfl⟩)) rfl
 intro θ R hd
 obtain ⟨h4d, h5d, _⟩ := hd
 exact Opp.plain (OG.imp (OD.addI rfl rfl rfl (by first | omega | (simp only [List.length_set, List.length_replicate]; omega))) (by rintro _ _ ⟨rfl, rfl⟩; exact ⟨[], rfl, trivial, rfl⟩)) rfl
 intro θ R hd
 exact Opp.plain (OG.imp (OD.move rfl rfl) (by rintro _ _ ⟨rfl, rfl⟩; exact ⟨[], rfl, trivial, rfl⟩)) rfl
 intro θ R hd
 obtain ⟨h6d, h7d, _⟩ := hd
 exact Opp.plain (OG.imp (OD.mulI rfl rfl rfl (by first | omega | (simp only [List.length_set, List.length_replicate]; omega))) (by rintro _ _ ⟨rfl, rfl⟩; exact ⟨[], rfl, trivial, rfl⟩)) rfl
 intro θ R hd
 exact Opp.plain (OG.imp (OD.move rfl rfl) (by rintro _ _ ⟨rfl, rfl⟩; exact ⟨[], rfl, trivial, rfl⟩)) rfl
 intro θ R hd
 obtain ⟨h8d, h9d, _⟩ := hd
 exact Opp.plain (OG.imp (OD.eqv (OD.addI rfl rfl rfl (by first | omega | (simp only [List.length_set, List.length_replicate]; omega))) (congrArg (Value.int .i64) ((ha2.2.2.1) : (((((j : Int) * nz) + (i : Int)) * nz) + (k : Int) : Int) = ((q2 : Int))))) (by rintro _ _ ⟨rfl, rfl⟩; exact ⟨[], rfl, trivial, rfl⟩)) rfl
 intro θ R hd
 exact Opp.plain (OG.imp (OD.move rfl rfl) (by rintro _ _ ⟨rfl, rfl⟩; exact ⟨[], rfl, trivial, rfl⟩)) rfl
 intro θ R hd
 obtain ⟨h11d, _⟩ := hd
 exact Opp.plain (OG.imp (OD.negI rfl rfl (by first | omega | (simp only [List.length_set, List.length_replicate]; omega))) (by rintro _ _ ⟨rfl, rfl⟩; exact ⟨[], rfl, trivial, rfl⟩)) rfl
 intro θ R hd
 exact Opp.plain (OG.imp (OD.move rfl rfl) (by rintro _ _ ⟨rfl, rfl⟩; exact ⟨[], rfl, trivial, rfl⟩)) rfl
 intro θ R hd
 obtain ⟨h12d, h13d, _⟩ := hd
 exact Opp.plain (OG.imp (OG.call [.int .i64 (0 - ((cdV p m dx (brK hx dx i j)).2).getD (k) 0), .int .i64 (pz)] ent50 rfl rfl rfl rfl (by exact (mod_s (by omega)))) (by rintro _ _ ⟨rfl, rfl⟩; exact ⟨[], rfl, trivial, rfl⟩)) rfl
 intro θ R hd
 obtain ⟨h1d, h10d, _⟩ := hd
 exact Opp.plain (OG.imp (OD.indexAddr rfl et24 rfl (Ent.ints (i := 5) rfl) rfl (by first | omega | (simp only [List.length_set, List.length_replicate]; omega))) (by rintro _ _ ⟨rfl, rfl⟩; exact ⟨[], rfl, trivial, rfl⟩)) rfl
 intro θ hall
 obtain ⟨_, _, _, _, _, _, _, _, _, _, _, _, _, _, _, _, _⟩ := hall
 refine G.at [] 0 (env' := [(0, .int .i64 (pz)), (1, .int .i64 (nz)), (2, .func (.func 24) #[] #[.pointer (some ⟨ga, 0, none⟩), .pointer (some ⟨gb, 0, none⟩), .pointer (some ⟨gf, 0, none⟩)]), (6, .pointer (some ⟨g1, 0, none⟩)), (7, .pointer (some ⟨g4, 0, none⟩)), (21, .int .i64 (nz)), (22, .int .i64 ((i : Int))), (8, .int .i64 ((i : Int))), (25, .int .i64 ((i : Int))), (26, .int .i64 ((j : Int))), (9, .int .i64 ((j : Int))), (32, v7), (33, .int .i64 ((((cdV p m dx (brK hx dx i j)).2).length : Nat))), (34, .int .i64 ((k : Int))), (66, .int .i64 ((0 - ((cdV p m dx (brK hx dx i j)).2).getD (k) 0) % pz)), (67, elemPtr v2 1 (q2))]) ⟨rfl, rfl, rfl, rfl, rfl, rfl, rfl, rfl, rfl, rfl, rfl, rfl, rfl, rfl, rfl, rfl, trivial⟩ (own' := ints 3 v7 ((cdV p m dx (brK hx dx i j)).2) :: box ga 29 [vx] :: box gb 50 [.bool (fr), .int .i64 (p), .int .i64 (cols), .int .i64 (size), vL, vps] :: box gf 4 [.bool (((fn && tfS p m hx dx i j) && zK p m hx dx i j))] :: box g4 26 [.int .i64 (pz), .int .i64 (nz), v2] :: ints 3 v2 ((us).set (q1) (((cdV p m dx (brK hx dx i j)).2).getD (k) 0)) :: box g1 26 [.int .i64 (0), .int .i64 (0), .slice none 0 0] :: own) rfl ?_
 show G _ _ _ [_] _ _ _ _
 refine G.stepD0 (OD.storeInt rfl ti3 rfl rfl (i := 5) rfl (by first | omega | (simp only [List.length_set, List.length_replicate]; omega))) rfl rfl ?_
 refine G.nil (GE.blockN (GE.then_ (GC.region ?_)))
 refine G.stepD (OD.addI rfl rfl rfl (by first | omega | (simp only [List.length_set, List.length_replicate]; omega))) rfl rfl rfl ?_
 refine G.stepD (OD.move rfl rfl) rfl rfl rfl ?_
 refine G.nil ?_
 exact GE.again (k + 1, ((us).set (q1) (((cdV p m dx (brK hx dx i j)).2).getD (k) 0)).set (q2) ((0 - ((cdV p m dx (brK hx dx i j)).2).getD (k) 0) % pz)) (⟨by omega, hT2.stepq (by omega) (by omega) (by omega) hq1 hq2 rfl (by rw [hpz, Int.zero_sub] <;> rfl)⟩) (by first | omega | (dsimp only; omega)) ⟨rfl, rfl, rfl, rfl, rfl, rfl, rfl, rfl, rfl, rfl, rfl, rfl, rfl, rfl, trivial⟩ [] 0 rfl
 replace hc9 := of_decide_eq_false hc9
 refine GC.exit (GE.pass (GE.pass (GE.hit (GE.blockN (GE.then_ (GC.region ?_))))))
 refine G.stepD (OD.addI rfl rfl rfl (by omega)) rfl rfl rfl ?_
 refine G.stepD (OD.move rfl rfl) rfl rfl rfl ?_
 refine G.nil ?_
 refine GE.ownEq (own' := ints 3 v7 ((cdV p m dx (brK hx dx i j)).2) :: box ga 29 [vx] :: box gb 50 [.bool (fr), .int .i64 (p), .int .i64 (cols), .int .i64 (size), vL, vps] :: box gf 4 [.bool ((fn && tfS p m hx dx i (j + 1)))] :: box g4 26 [.int .i64 (pz), .int .i64 (nz), v2] :: ints 3 v2 us :: box g1 26 [.int .i64 (0), .int .i64 (0), .slice none 0 0] :: own) (by (try dsimp only); rw [tfS_next, Bool.and_assoc] <;> rfl) ?_
 exact GE.again (j + 1, us) (⟨by omega, TbG.next ((show k = hx.length by omega) ▸ hT2)⟩) (by first | omega | (dsimp only; omega)) ⟨rfl, rfl, rfl, rfl, rfl, rfl, rfl, rfl, rfl, rfl, trivial⟩ [4, 4, 4, 1, 1, 1] 1 rfl
 replace hc6 := of_decide_eq_false hc6
 refine GC.exit (GE.pass (GE.pass (GE.hit (GE.blockN (GE.then_ (GC.region ?_))))))
 refine G.stepD (OD.addI rfl rfl rfl (by omega)) rfl rfl rfl ?_
 refine G.stepD (OD.move rfl rfl) rfl rfl rfl ?_
 refine G.nil ?_
 refine GE.ownEq (own' := box g4 26 [.int .i64 (pz), .int .i64 (nz), v2] :: ints 3 v2 zs :: box g1 26 [.int .i64 (0), .int .i64 (0), .slice none 0 0] :: box ga 29 [vx] :: box gb 50 [.bool (fr), .int .i64 (p), .int .i64 (cols), .int .i64 (size), vL, vps] :: box gf 4 [.bool ((fn && tfS p m hx dx (i + 1) 0))] :: own) (by (try dsimp only); rw [tfS_row (show j = i by omega)] <;> rfl) ?_
 exact GE.again (i + 1, zs) (⟨by omega, TbG.row ((show j = i by omega) ▸ hT1)⟩) (by first | omega | (dsimp only; omega)) ⟨rfl, rfl, rfl, rfl, rfl, rfl, rfl, trivial⟩ [] 0 rfl
 replace hc5 := of_decide_eq_false hc5
 refine GC.exit (GE.pass (GE.pass (GE.hit (GE.then_ (GC.seq (GC.region ?_))))))
 refine G.stepD (OD.loadAgg rfl ti26 rfl (i := 0) rfl (us := [.int .i64 (pz), .int .i64 (nz), v2]) rfl rfl) rfl rfl rfl ?_
 refine G.stepD0 (OD.store rfl ti26 rfl rfl (us := [.int .i64 (pz), .int .i64 (nz), v2]) rfl rfl (allC rfl (allC rfl (allC (IsS.one hs3) rfl))) (i := 2) rfl rfl) rfl rfl ?_
 refine G.nil (GE.then_ (GC.ret ?_))
 have hie : i = hx.length := by omega
 refine GE.ownEq (own' := box g4 26 [.int .i64 (pz), .int .i64 (nz), v2] :: ints 3 v2 ys :: box g1 26 [.int .i64 (pz), .int .i64 (nz), v2] :: box ga 29 [vx] :: box gb 50 [.bool (fr), .int .i64 (p), .int .i64 (cols), .int .i64 (size), vL, vps] :: box gf 4 [.bool ((fn && tfS p m hx dx hx.length 0))] :: own) (by (try dsimp only); rw [hie] <;> rfl) ?_
 skip
 exact GE.body [1, 2, 2, 2] 2 (resN rfl (RVs.cons (rv_cells ti26 rfl (i := 2) rfl rfl) RVs.nil) rfl) rfl (⟨v2, ys, rfl, (hs3), ((show i = hx.length by omega) ▸ hT0), rfl⟩)
set_option maxHeartbeats 4000000 in
set_option maxRecDepth 100000 in
theorem algebraOf_w {W : World} {own : List Asn} {vx : Value} {ux : List Value} {hx : List Hd} {dx : List (List Int)}  (sx : IsS vx) (ex : Ent own fun w => Hds w vx ux hx) (mx : ∀ k, k < hx.length → Ent own fun w => Ints w (ux.getD k undef) (dx.getD k [])) (lx : ux.length = hx.length) (kx : dx.length = hx.length) (ax : AllS ux)  (hlx : hx.length ≤ 1073741824) (hle : ∀ k, k < hx.length → (dx.getD k []).length ≤ 1073741824) : Spec Try.prog 7 [vx] W own (fun v ow => ∃ (r2 : Value), v = .tuple #[.agg #[.int .i64 (alP hx dx), .int .i64 (alN hx dx), r2], .bool (alOk hx dx)] ∧ IsS r2 ∧ ow = ints 3 r2 (alD hx dx) :: own) := by
 refine Spec.enter Try.f7 _ Try.func7 rfl (n := 80) rfl rfl ?_
 refine GC.seq (GC.region ?_)
 refine G.step (OG.box (cs := [vx]) rfl rfl (one_cells (IsS.one sx))) rfl rfl rfl ?_
 rintro _ _ ⟨g1, rfl, rfl⟩
 refine G.step (OG.alloc rfl ti26 (zs := [.int .i64 (0), .int .i64 (0), .slice none 0 0]) rfl) rfl rfl rfl ?_
 rintro _ _ ⟨g2, rfl, rfl⟩
 refine G.stepD (OD.assign rfl rfl) rfl rfl rfl ?_
 refine G.nil (GE.then_ (GC.seq (GC.seq (GC.region ?_))))
 refine G.stepD (OD.load rfl ti29 rfl (i := 1) rfl rfl) rfl rfl rfl ?_
 refine G.stepD (OD.len rfl rfl et29 rfl (Ent.drop 2 ex)) rfl rfl rfl ?_
 refine G.step (OG.call [.int .i64 ((hx.length : Nat)), .int .i64 (1), .int .i64 (28)] ent20 rfl rfl rfl rfl (by exact inside_s)) rfl rfl rfl ?_
 rintro _ _ ⟨rfl, rfl⟩
 refine G.stepD (OD.not rfl rfl) rfl rfl rfl ?_
 refine G.nil (GE.then_ ?_)
 refine GC.cond rfl (fun hc3 => ?_) (fun hc3 => ?_)
 replace hc3 := eq_false_of_not hc3
 have hin := inB_false hc3
 refine GC.seq (GC.region ?_)
 refine G.stepD (OD.build (idx := []) (xs := []) (vs := []) (cs := []) (zs := [.int .i64 (0), .int .i64 (0), .slice none 0 0]) (r := [.int .i64 (0), .int .i64 (0), .slice none 0 0]) rfl ti26 rfl rfl rfl trivial rfl) rfl rfl rfl ?_
 refine G.stepD0 (OD.store rfl ti26 rfl rfl (us := [.int .i64 (0), .int .i64 (0), .slice none 0 0]) rfl rfl rfl (i := 0) rfl rfl) rfl rfl ?_
 refine G.stepD (OD.assign rfl rfl) rfl rfl rfl ?_
 refine G.nil (GE.then_ (GC.ret (GE.passR ?_)))
 refine GE.nilInts 3 ?_
 exact GE.body [0] 2 (resN rfl (RVs.cons (rv_cells ti26 rfl (i := 1) rfl rfl) (RVs.cons (rv_tmp rfl) RVs.nil)) rfl) rfl (⟨(.slice none 0 0), congr (congr (congrArg (fun (a0 : Int) (a1 : Int) (a3 : Bool) => (.tuple #[.agg #[.int .i64 (a0), .int .i64 (a1), (.slice none 0 0)], .bool (a3)] : Value)) ((by rw [alP, (show alOk hx dx = false from by first | exact alOk_no2 (by assumption) | exact alOk_no1 (aoB_few (by omega)) | exact alOk_no1 (aoB_no (by first | exact aoK_no1 (show matOkB ⟨(hx.getD k hd0).1, (hx.getD k hd0).2.1, (hx.getD k hd0).2.2, dx.getD k []⟩ = false by assumption) | exact aoK_no2 (show ¬ (hx.getD k hd0).2.1 = (hx.getD k hd0).2.2 by omega) | exact aoK_no3 (show ¬ (hx.getD k hd0).2.1 = (hx.getD 0 hd0).2.1 by omega) | exact aoK_no4 (show ¬ (hx.getD k hd0).1 = (hx.getD 0 hd0).1 by omega)) (by omega)))] <;> rfl : (0 : Int) = alP hx dx))) ((by rw [alN, (show alOk hx dx = false from by first | exact alOk_no2 (by assumption) | exact alOk_no1 (aoB_few (by omega)) | exact alOk_no1 (aoB_no (by first | exact aoK_no1 (show matOkB ⟨(hx.getD k hd0).1, (hx.getD k hd0).2.1, (hx.getD k hd0).2.2, dx.getD k []⟩ = false by assumption) | exact aoK_no2 (show ¬ (hx.getD k hd0).2.1 = (hx.getD k hd0).2.2 by omega) | exact aoK_no3 (show ¬ (hx.getD k hd0).2.1 = (hx.getD 0 hd0).2.1 by omega) | exact aoK_no4 (show ¬ (hx.getD k hd0).1 = (hx.getD 0 hd0).1 by omega)) (by omega)))] <;> rfl : (0 : Int) = alN hx dx))) (((show alOk hx dx = false from by first | exact alOk_no2 (by assumption) | exact alOk_no1 (aoB_few (by omega)) | exact alOk_no1 (aoB_no (by first | exact aoK_no1 (show matOkB ⟨(hx.getD k hd0).1, (hx.getD k hd0).2.1, (hx.getD k hd0).2.2, dx.getD k []⟩ = false by assumption) | exact aoK_no2 (show ¬ (hx.getD k hd0).2.1 = (hx.getD k hd0).2.2 by omega) | exact aoK_no3 (show ¬ (hx.getD k hd0).2.1 = (hx.getD 0 hd0).2.1 by omega) | exact aoK_no4 (show ¬ (hx.getD k hd0).1 = (hx.getD 0 hd0).1 by omega)) (by omega))).symm : (false : Bool) = alOk hx dx)), IsS.nil, congrArg (fun (l0 : List Int) => ints 3 (.slice none 0 0) l0 :: own) ((by rw [alD, (show alOk hx dx = false from by first | exact alOk_no2 (by assumption) | exact alOk_no1 (aoB_few (by omega)) | exact alOk_no1 (aoB_no (by first | exact aoK_no1 (show matOkB ⟨(hx.getD k hd0).1, (hx.getD k hd0).2.1, (hx.getD k hd0).2.2, dx.getD k []⟩ = false by assumption) | exact aoK_no2 (show ¬ (hx.getD k hd0).2.1 = (hx.getD k hd0).2.2 by omega) | exact aoK_no3 (show ¬ (hx.getD k hd0).2.1 = (hx.getD 0 hd0).2.1 by omega) | exact aoK_no4 (show ¬ (hx.getD k hd0).1 = (hx.getD 0 hd0).1 by omega)) (by omega)))] <;> rfl : [] = alD hx dx))⟩)
 replace hc3 := eq_true_of_not hc3
 have hin := inB_true hc3
 refine GC.skip (GE.then_ (GC.seq (GC.region ?_)))
 refine G.step (OG.buildLst (xs := []) (us := []) rfl et39 rfl rfl rfl rfl rfl) rfl rfl rfl ?_
 rintro v4 _ ⟨hs5, rfl⟩
 refine G.stepD (OD.assign rfl rfl) rfl rfl rfl ?_
 refine G.nil (GE.then_ (GC.seq (GC.seq (GC.region ?_))))
 refine G.stepD (OD.load rfl ti29 rfl (i := 2) rfl rfl) rfl rfl rfl ?_
 refine G.stepD (OD.len rfl rfl et29 rfl (Ent.drop 3 ex)) rfl rfl rfl ?_
 refine G.stepD (OD.move rfl rfl) rfl rfl rfl ?_
 refine G.nil (GE.then_ (GC.block ?_))
 refine GC.ownEq (own' := lst 24 v4 (ux.take 0) :: box g2 26 [.int .i64 (0), .int .i64 (0), .slice none 0 0] :: box g1 29 [vx] :: own) (rfl) ?_
 refine GC.loop (ι := Nat × Value) (fun ⟨k, v⟩ => [(1, .pointer (some ⟨g1, 0, none⟩)), (2, .pointer (some ⟨g2, 0, none⟩)), (17, vx), (18, .int .i64 ((hx.length : Nat))), (4, v), (19, .int .i64 ((k : Int)))]) (fun ⟨k, v⟩ => lst 24 v (ux.take k) :: box g2 26 [.int .i64 (0), .int .i64 (0), .slice none 0 0] :: box g1 29 [vx] :: own) (fun ⟨k, v⟩ => (k ≤ hx.length) ∧ (IsS v) ∧ (∀ q, q < k → aoK hx dx q = true)) (fun ⟨k, v⟩ => hx.length - k) (0, v4) (⟨by omega, hs5, fun q hq => absurd hq (by omega)⟩) ⟨rfl, rfl, rfl, rfl, rfl, rfl, trivial⟩ [] 0 rfl ?_
 rintro ⟨k, v⟩ ⟨hk, hv, hall⟩
 have htl : (ux.take k).length = k := by rw [List.length_take]; omega
 refine GC.seq (GC.region ?_)
 refine G.stepD (OD.lss rfl rfl rfl) rfl rfl rfl ?_
 refine G.nil (GE.then_ (GC.seq ?_))
 refine GC.cond rfl (fun hc6 => ?_) (fun hc6 => ?_)
 replace hc6 := of_decide_eq_true hc6
 refine GC.skip (GE.then_ (GC.seq (GC.block (GC.seq (GC.region ?_)))))
 refine G.stepD (OD.indexAddr rfl et29 rfl (Ent.drop 3 ex) rfl (by omega)) rfl rfl rfl ?_
 refine G.stepD (OD.loadHd rfl ti41 rfl (Ent.drop 3 ex) (by omega)) rfl rfl rfl ?_
 refine G.step (OG.alloc rfl ti41 (zs := [.int .i64 (0), .int .i64 (0), .int .i64 (0), .slice none 0 0]) rfl) rfl rfl rfl ?_
 rintro _ _ ⟨g7, rfl, rfl⟩
 refine G.stepD0 (OD.store rfl ti41 rfl rfl (us := [.int .i64 ((hx.getD (k) hd0).1), .int .i64 ((hx.getD (k) hd0).2.1), .int .i64 ((hx.getD (k) hd0).2.2), (ux.getD (k) undef)]) rfl rfl (allC rfl (allC rfl (allC rfl (allC (IsS.one (ax.get (by omega))) rfl)))) (i := 0) rfl rfl) rfl rfl ?_
 refine G.nil (GE.then_ (GC.seq (GC.seq ?_)))
 rcases Bool.eq_false_or_eq_true (!(matOkB ⟨(hx.getD (k) hd0).1, (hx.getD (k) hd0).2.1, (hx.getD (k) hd0).2.2, dx.getD (k) []⟩)) with hg8 | hg8
 have hg8p := hg8
 replace hg8p := eq_false_of_not hg8p
 refine GC.at [] 0 (env' := [(1, .pointer (some ⟨g1, 0, none⟩)), (2, .pointer (some ⟨g2, 0, none⟩)), (17, vx), (18, .int .i64 ((hx.length : Nat))), (4, v), (19, .int .i64 ((k : Int))), (6, .pointer (some ⟨g7, 0, none⟩))]) ⟨rfl, rfl, rfl, rfl, rfl, rfl, rfl, trivial⟩ rfl ?_
 refine GC.par (its := [⟨23, [], [], [], [], fun _ => .agg #[.int .i64 ((hx.getD (k) hd0).1), .int .i64 ((hx.getD (k) hd0).2.1), .int .i64 ((hx.getD (k) hd0).2.2), (ux.getD (k) undef)], fun _ => True, fun _ => []⟩,
     ⟨24, [(0, 23)], [], [], [], fun _ => .bool (matOkB ⟨(hx.getD (k) hd0).1, (hx.getD (k) hd0).2.1, (hx.getD (k) hd0).2.2, dx.getD (k) []⟩), fun _ => True, fun _ => []⟩,
     ⟨25, [(1, 24)], [], [], [], fun _ => .bool true, fun _ => True, fun _ => []⟩,
     ⟨26, [(2, 25)], [], [], [], fun _ => .bool true, fun _ => True, fun _ => []⟩,
     ⟨27, [(3, 26)], [], [], [], fun _ => undef, fun _ => True, fun _ => []⟩,
     ⟨28, [(3, 26), (4, 27)], [], [], [], fun _ => undef, fun _ => True, fun _ => []⟩,
     ⟨29, [(3, 26)], [], [], [], fun _ => undef, fun _ => True, fun _ => []⟩,
     ⟨30, [(3, 26), (6, 29)], [], [], [], fun _ => undef, fun _ => True, fun _ => []⟩,
     ⟨31, [(3, 26), (5, 28), (7, 30)], [], [], [], fun _ => undef, fun _ => True, fun _ => []⟩,
     ⟨32, [(3, 26), (8, 31)], [], [], [], fun _ => .bool true, fun _ => True, fun _ => []⟩,
     ⟨33, [(9, 32)], [], [], [], fun _ => .bool true, fun _ => True, fun _ => []⟩,
     ⟨34, [(10, 33)], [], [], [], fun _ => undef, fun _ => True, fun _ => []⟩,
     ⟨35, [(10, 33), (11, 34)], [], [], [], fun _ => undef, fun _ => True, fun _ => []⟩,
     ⟨36, [(10, 33)], [], [], [], fun _ => undef, fun _ => True, fun _ => []⟩,
     ⟨37, [(10, 33), (13, 36)], [], [], [], fun _ => undef, fun _ => True, fun _ => []⟩,
     ⟨38, [(10, 33), (14, 37)], [], [], [], fun _ => undef, fun _ => True, fun _ => []⟩,
     ⟨39, [(10, 33), (15, 38)], [], [], [], fun _ => undef, fun _ => True, fun _ => []⟩,
     ⟨40, [(10, 33), (12, 35), (16, 39)], [], [], [], fun _ => undef, fun _ => True, fun _ => []⟩,
     ⟨41, [(10, 33), (17, 40)], [], [], [], fun _ => .bool true, fun _ => True, fun _ => []⟩,
     ⟨42, [(18, 41)], [], [], [], fun _ => .bool true, fun _ => True, fun _ => []⟩,
     ⟨43, [(19, 42)], [], [], [], fun _ => undef, fun _ => True, fun _ => []⟩,
     ⟨44, [(19, 42), (20, 43)], [], [], [], fun _ => undef, fun _ => True, fun _ => []⟩,
     ⟨45, [(19, 42)], [], [], [], fun _ => undef, fun _ => True, fun _ => []⟩,
     ⟨46, [(19, 42), (22, 45)], [], [], [], fun _ => undef, fun _ => True, fun _ => []⟩,
     ⟨47, [(19, 42), (23, 46)], [], [], [], fun _ => undef, fun _ => True, fun _ => []⟩,
     ⟨48, [(19, 42), (24, 47)], [], [], [], fun _ => undef, fun _ => True, fun _ => []⟩,
     ⟨49, [(19, 42), (21, 44), (25, 48)], [], [], [], fun _ => undef, fun _ => True, fun _ => []⟩,
     ⟨50, [(19, 42), (26, 49)], [], [], [], fun _ => .bool true, fun _ => True, fun _ => []⟩]) (by kernel_rfl) (by kernel_rfl) (POps.cons ?_ (POps.cons ?_ (POps.cons ?_ (POps.cons ?_ (POps.cons ?_ (POps.cons ?_ (POps.cons ?_ (POps.cons ?_ (POps.cons ?_ (POps.cons ?_ (POps.cons ?_ (POps.cons ?_ (POps.cons ?_ (POps.cons ?_ (POps.cons ?_ (POps.cons ?_ (POps.cons ?_ (POps.cons ?_ (POps.cons ?_ (POps.cons ?_ (POps.cons ?_ (POps.cons ?_ (POps.cons ?_ (POps.cons ?_ (POps.cons ?_ (POps.cons ?_ (POps.cons ?_ (POps.cons ?_ POps.nil)))))))))))))))))))))))))))) ?_
 intro θ R hd
 exact Opp.plain (OG.imp (OD.loadAgg rfl ti41 rfl (i := 0) rfl (us := [.int .i64 ((hx.getD (k) hd0).1), .int .i64 ((hx.getD (k) hd0).2.1), .int .i64 ((hx.getD (k) hd0).2.2), (ux.getD (k) undef)]) rfl rfl) (by rintro _ _ ⟨rfl, rfl⟩; exact ⟨[], rfl, trivial, rfl⟩)) rfl
 intro θ R hd
 obtain ⟨h0d, _⟩ := hd
 exact Opp.plain (OG.imp (OG.call [.agg #[.int .i64 ((hx.getD (k) hd0).1), .int .i64 ((hx.getD (k) hd0).2.1), .int .i64 ((hx.getD (k) hd0).2.2), (ux.getD (k) undef)]] ent21 rfl rfl rfl rfl (by exact (matrixOk_s (ax.get (by omega)) (Ent.drop 4 ((mx (k) (by omega)).app))))) (by rintro _ _ ⟨rfl, rfl⟩; exact ⟨[], rfl, trivial, rfl⟩)) rfl
 intro θ R hd
 obtain ⟨h1d, _⟩ := hd
 exact Opp.plain (OG.imp (OD.not rfl rfl) (by rintro _ _ ⟨rfl, rfl⟩; exact ⟨[], congrArg Value.bool hg8, trivial, rfl⟩)) rfl
 intro θ R hd
 obtain ⟨h2d, _⟩ := hd
 exact Opp.plain (OG.imp (OD.move rfl rfl) (by rintro _ _ ⟨rfl, rfl⟩; exact ⟨[], rfl, trivial, rfl⟩)) rfl
 intro θ R hd
 obtain ⟨h3d, _⟩ := hd
 exact Opp.off ⟨[], rfl, trivial, rfl⟩ rfl rfl rfl rfl
 intro θ R hd
 obtain ⟨h3d, h4d, _⟩ := hd
 exact Opp.off ⟨[], rfl, trivial, rfl⟩ rfl rfl rfl rfl
 intro θ R hd
 obtain ⟨h3d, _⟩ := hd
 exact Opp.off ⟨[], rfl, trivial, rfl⟩ rfl rfl rfl rfl
 intro θ R hd
 obtain ⟨h3d, h6d, _⟩ := hd
 exact Opp.off ⟨[], rfl, trivial, rfl⟩ rfl rfl rfl rfl
 intro θ R hd
 obtain ⟨h3d, h5d, h7d, _⟩ := hd
 exact Opp.off ⟨[], rfl, trivial, rfl⟩ rfl rfl rfl rfl
 intro θ R hd
 obtain ⟨h3d, h8d, _⟩ := hd
 exact Opp.plain (OG.imp (OD.pickT rfl rfl rfl) (by rintro _ _ ⟨rfl, rfl⟩; exact ⟨[], rfl, trivial, rfl⟩)) rfl
 intro θ R hd
 obtain ⟨h9d, _⟩ := hd
 exact Opp.plain (OG.imp (OD.move rfl rfl) (by rintro _ _ ⟨rfl, rfl⟩; exact ⟨[], rfl, trivial, rfl⟩)) rfl
 intro θ R hd
 obtain ⟨h10d, _⟩ := hd
 exact Opp.off ⟨[], rfl, trivial, rfl⟩ rfl rfl rfl rfl
 intro θ R hd
 obtain ⟨h10d, h11d, _⟩ := hd
 exact Opp.off ⟨[], rfl, trivial, rfl⟩ rfl rfl rfl rfl
 intro θ R hd
 obtain ⟨h10d, _⟩ := hd
 exact Opp.off ⟨[], rfl, trivial, rfl⟩ rfl rfl rfl rfl
 intro θ R hd
 obtain ⟨h10d, h13d, _⟩ := hd
 exact Opp.off ⟨[], rfl, trivial, rfl⟩ rfl rfl rfl rfl
 intro θ R hd
 obtain ⟨h10d, h14d, _⟩ := hd
 exact Opp.off ⟨[], rfl, trivial, rfl⟩ rfl rfl rfl rfl
 intro θ R hd
 obtain ⟨h10d, h15d, _⟩ := hd
 exact Opp.off ⟨[], rfl, trivial, rfl⟩ rfl rfl rfl rfl
 intro θ R hd
 obtain ⟨h10d, h12d, h16d, _⟩ := hd
 exact Opp.off ⟨[], rfl, trivial, rfl⟩ rfl rfl rfl rfl
 intro θ R hd
 obtain ⟨h10d, h17d, _⟩ := hd
 exact Opp.plain (OG.imp (OD.pickT rfl rfl rfl) (by rintro _ _ ⟨rfl, rfl⟩; exact ⟨[], rfl, trivial, rfl⟩)) rfl
 intro θ R hd
 obtain ⟨h18d, _⟩ := hd
 exact Opp.plain (OG.imp (OD.move rfl rfl) (by rintro _ _ ⟨rfl, rfl⟩; exact ⟨[], rfl, trivial, rfl⟩)) rfl
 intro θ R hd
 obtain ⟨h19d, _⟩ := hd
 exact Opp.off ⟨[], rfl, trivial, rfl⟩ rfl rfl rfl rfl
 intro θ R hd
 obtain ⟨h19d, h20d, _⟩ := hd
 exact Opp.off ⟨[], rfl, trivial, rfl⟩ rfl rfl rfl rfl
 intro θ R hd
 obtain ⟨h19d, _⟩ := hd
 exact Opp.off ⟨[], rfl, trivial, rfl⟩ rfl rfl rfl rfl
 intro θ R hd
 obtain ⟨h19d, h22d, _⟩ := hd
 exact Opp.off ⟨[], rfl, trivial, rfl⟩ rfl rfl rfl rfl
 intro θ R hd
 obtain ⟨h19d, h23d, _⟩ := hd
 exact Opp.off ⟨[], rfl, trivial, rfl⟩ rfl rfl rfl rfl
 intro θ R hd
 obtain ⟨h19d, h24d, _⟩ := hd
 exact Opp.off ⟨[], rfl, trivial, rfl⟩ rfl rfl rfl rfl
 intro θ R hd
 obtain ⟨h19d, h21d, h25d, _⟩ := hd
 exact Opp.off ⟨[], rfl, trivial, rfl⟩ rfl rfl rfl rfl
 intro θ R hd
 obtain ⟨h19d, h26d, _⟩ := hd
 exact Opp.plain (OG.imp (OD.pickT rfl rfl rfl) (by rintro _ _ ⟨rfl, rfl⟩; exact ⟨[], rfl, trivial, rfl⟩)) rfl
 intro θ hall
 obtain ⟨_, _, _, _, _, _, _, _, _, _, _, _, _, _, _, _, _, _, _, _, _, _, _, _, _, _, _, _, _⟩ := hall
 refine G.at [] 0 (env' := [(1, .pointer (some ⟨g1, 0, none⟩)), (2, .pointer (some ⟨g2, 0, none⟩)), (17, vx), (18, .int .i64 ((hx.length : Nat))), (4, v), (19, .int .i64 ((k : Int))), (6, .pointer (some ⟨g7, 0, none⟩)), (50, .bool true)]) ⟨rfl, rfl, rfl, rfl, rfl, rfl, rfl, rfl, trivial⟩ (own' := box g7 41 [.int .i64 ((hx.getD (k) hd0).1), .int .i64 ((hx.getD (k) hd0).2.1), .int .i64 ((hx.getD (k) hd0).2.2), (ux.getD (k) undef)] :: lst 24 v (ux.take k) :: box g2 26 [.int .i64 (0), .int .i64 (0), .slice none 0 0] :: box g1 29 [vx] :: own) rfl ?_
 show G _ _ _ [] _ _ _ _
 refine G.nil (GE.then_ (GC.condT rfl (GC.seq (GC.region ?_))))
 refine G.stepD (OD.build (idx := []) (xs := []) (vs := []) (cs := []) (zs := [.int .i64 (0), .int .i64 (0), .slice none 0 0]) (r := [.int .i64 (0), .int .i64 (0), .slice none 0 0]) rfl ti26 rfl rfl rfl trivial rfl) rfl rfl rfl ?_
 refine G.stepD0 (OD.store rfl ti26 rfl rfl (us := [.int .i64 (0), .int .i64 (0), .slice none 0 0]) rfl rfl rfl (i := 2) rfl rfl) rfl rfl ?_
 refine G.stepD (OD.assign rfl rfl) rfl rfl rfl ?_
 refine G.nil (GE.then_ (GC.ret (GE.passR (GE.blockR (GE.passR (GE.passR (GE.blockR (GE.passR ?_))))))))
 refine GE.nilInts 3 ?_
 exact GE.body [0] 4 (resN rfl (RVs.cons (rv_cells ti26 rfl (i := 3) rfl rfl) (RVs.cons (rv_tmp rfl) RVs.nil)) rfl) rfl (⟨(.slice none 0 0), congr (congr (congrArg (fun (a0 : Int) (a1 : Int) (a3 : Bool) => (.tuple #[.agg #[.int .i64 (a0), .int .i64 (a1), (.slice none 0 0)], .bool (a3)] : Value)) ((by rw [alP, (show alOk hx dx = false from by first | exact alOk_no2 (by assumption) | exact alOk_no1 (aoB_few (by omega)) | exact alOk_no1 (aoB_no (by first | exact aoK_no1 (show matOkB ⟨(hx.getD k hd0).1, (hx.getD k hd0).2.1, (hx.getD k hd0).2.2, dx.getD k []⟩ = false by assumption) | exact aoK_no2 (show ¬ (hx.getD k hd0).2.1 = (hx.getD k hd0).2.2 by omega) | exact aoK_no3 (show ¬ (hx.getD k hd0).2.1 = (hx.getD 0 hd0).2.1 by omega) | exact aoK_no4 (show ¬ (hx.getD k hd0).1 = (hx.getD 0 hd0).1 by omega)) (by omega)))] <;> rfl : (0 : Int) = alP hx dx))) ((by rw [alN, (show alOk hx dx = false from by first | exact alOk_no2 (by assumption) | exact alOk_no1 (aoB_few (by omega)) | exact alOk_no1 (aoB_no (by first | exact aoK_no1 (show matOkB ⟨(hx.getD k hd0).1, (hx.getD k hd0).2.1, (hx.getD k hd0).2.2, dx.getD k []⟩ = false by assumption) | exact aoK_no2 (show ¬ (hx.getD k hd0).2.1 = (hx.getD k hd0).2.2 by omega) | exact aoK_no3 (show ¬ (hx.getD k hd0).2.1 = (hx.getD 0 hd0).2.1 by omega) | exact aoK_no4 (show ¬ (hx.getD k hd0).1 = (hx.getD 0 hd0).1 by omega)) (by omega)))] <;> rfl : (0 : Int) = alN hx dx))) (((show alOk hx dx = false from by first | exact alOk_no2 (by assumption) | exact alOk_no1 (aoB_few (by omega)) | exact alOk_no1 (aoB_no (by first | exact aoK_no1 (show matOkB ⟨(hx.getD k hd0).1, (hx.getD k hd0).2.1, (hx.getD k hd0).2.2, dx.getD k []⟩ = false by assumption) | exact aoK_no2 (show ¬ (hx.getD k hd0).2.1 = (hx.getD k hd0).2.2 by omega) | exact aoK_no3 (show ¬ (hx.getD k hd0).2.1 = (hx.getD 0 hd0).2.1 by omega) | exact aoK_no4 (show ¬ (hx.getD k hd0).1 = (hx.getD 0 hd0).1 by omega)) (by omega))).symm : (false : Bool) = alOk hx dx)), IsS.nil, congrArg (fun (l0 : List Int) => ints 3 (.slice none 0 0) l0 :: own) ((by rw [alD, (show alOk hx dx = false from by first | exact alOk_no2 (by assumption) | exact alOk_no1 (aoB_few (by omega)) | exact alOk_no1 (aoB_no (by first | exact aoK_no1 (show matOkB ⟨(hx.getD k hd0).1, (hx.getD k hd0).2.1, (hx.getD k hd0).2.2, dx.getD k []⟩ = false by assumption) | exact aoK_no2 (show ¬ (hx.getD k hd0).2.1 = (hx.getD k hd0).2.2 by omega) | exact aoK_no3 (show ¬ (hx.getD k hd0).2.1 = (hx.getD 0 hd0).2.1 by omega) | exact aoK_no4 (show ¬ (hx.getD k hd0).1 = (hx.getD 0 hd0).1 by omega)) (by omega)))] <;> rfl : [] = alD hx dx))⟩)
 have hg8p := hg8
 replace hg8p := eq_true_of_not hg8p
 rcases Bool.eq_false_or_eq_true (((hx.getD (k) hd0).2.1) != ((hx.getD (k) hd0).2.2)) with hg9 | hg9
 have hg9p := hg9
 replace hg9p := ne_of_bne hg9p
 refine GC.at [] 0 (env' := [(1, .pointer (some ⟨g1, 0, none⟩)), (2, .pointer (some ⟨g2, 0, none⟩)), (17, vx), (18, .int .i64 ((hx.length : Nat))), (4, v), (19, .int .i64 ((k : Int))), (6, .pointer (some ⟨g7, 0, none⟩))]) ⟨rfl, rfl, rfl, rfl, rfl, rfl, rfl, trivial⟩ rfl ?_
 refine GC.par (its := [⟨23, [], [], [], [], fun _ => .agg #[.int .i64 ((hx.getD (k) hd0).1), .int .i64 ((hx.getD (k) hd0).2.1), .int .i64 ((hx.getD (k) hd0).2.2), (ux.getD (k) undef)], fun _ => True, fun _ => []⟩,
     ⟨24, [(0, 23)], [], [], [], fun _ => .bool (matOkB ⟨(hx.getD (k) hd0).1, (hx.getD (k) hd0).2.1, (hx.getD (k) hd0).2.2, dx.getD (k) []⟩), fun _ => True, fun _ => []⟩,
     ⟨25, [(1, 24)], [], [], [], fun _ => .bool false, fun _ => True, fun _ => []⟩,
     ⟨26, [(2, 25)], [], [], [], fun _ => .bool false, fun _ => True, fun _ => []⟩,
     ⟨27, [(3, 26)], [], [], [], fun _ => .pointer (some ⟨g7, 1, none⟩), fun _ => True, fun _ => []⟩,
     ⟨28, [(3, 26), (4, 27)], [], [], [], fun _ => .int .i64 ((hx.getD (k) hd0).2.1), fun _ => True, fun _ => []⟩,
     ⟨29, [(3, 26)], [], [], [], fun _ => .pointer (some ⟨g7, 2, none⟩), fun _ => True, fun _ => []⟩,
     ⟨30, [(3, 26), (6, 29)], [], [], [], fun _ => .int .i64 ((hx.getD (k) hd0).2.2), fun _ => True, fun _ => []⟩,
     ⟨31, [(3, 26), (5, 28), (7, 30)], [], [], [], fun _ => .bool true, fun _ => True, fun _ => []⟩,
     ⟨32, [(3, 26), (8, 31)], [], [], [], fun _ => .bool true, fun _ => True, fun _ => []⟩,
     ⟨33, [(9, 32)], [], [], [], fun _ => .bool true, fun _ => True, fun _ => []⟩,
     ⟨34, [(10, 33)], [], [], [], fun _ => undef, fun _ => True, fun _ => []⟩,
     ⟨35, [(10, 33), (11, 34)], [], [], [], fun _ => undef, fun _ => True, fun _ => []⟩,
     ⟨36, [(10, 33)], [], [], [], fun _ => undef, fun _ => True, fun _ => []⟩,
     ⟨37, [(10, 33), (13, 36)], [], [], [], fun _ => undef, fun _ => True, fun _ => []⟩,
     ⟨38, [(10, 33), (14, 37)], [], [], [], fun _ => undef, fun _ => True, fun _ => []⟩,
     ⟨39, [(10, 33), (15, 38)], [], [], [], fun _ => undef, fun _ => True, fun _ => []⟩,
     ⟨40, [(10, 33), (12, 35), (16, 39)], [], [], [], fun _ => undef, fun _ => True, fun _ => []⟩,
     ⟨41, [(10, 33), (17, 40)], [], [], [], fun _ => .bool true, fun _ => True, fun _ => []⟩,
     ⟨42, [(18, 41)], [], [], [], fun _ => .bool true, fun _ => True, fun _ => []⟩,
     ⟨43, [(19, 42)], [], [], [], fun _ => undef, fun _ => True, fun _ => []⟩,
     ⟨44, [(19, 42), (20, 43)], [], [], [], fun _ => undef, fun _ => True, fun _ => []⟩,
     ⟨45, [(19, 42)], [], [], [], fun _ => undef, fun _ => True, fun _ => []⟩,
     ⟨46, [(19, 42), (22, 45)], [], [], [], fun _ => undef, fun _ => True, fun _ => []⟩,
     ⟨47, [(19, 42), (23, 46)], [], [], [], fun _ => undef, fun _ => True, fun _ => []⟩,
     ⟨48, [(19, 42), (24, 47)], [], [], [], fun _ => undef, fun _ => True, fun _ => []⟩,
     ⟨49, [(19, 42), (21, 44), (25, 48)], [], [], [], fun _ => undef, fun _ => True, fun _ => []⟩,
     ⟨50, [(19, 42), (26, 49)], [], [], [], fun _ => .bool true, fun _ => True, fun _ => []⟩]) (by kernel_rfl) (by kernel_rfl) (POps.cons ?_ (POps.cons ?_ (POps.cons ?_ (POps.cons ?_ (POps.cons ?_ (POps.cons ?_ (POps.cons ?_ (POps.cons ?_ (POps.cons ?_ (POps.cons ?_ (POps.cons ?_ (POps.cons ?_ (POps.cons ?_ (POps.cons ?_ (POps.cons ?_ (POps.cons ?_ (POps.cons ?_ (POps.cons ?_ (POps.cons ?_ (POps.cons ?_ (POps.cons ?_ (POps.cons ?_ (POps.cons ?_ (POps.cons ?_ (POps.cons ?_ (POps.cons ?_ (POps.cons ?_ (POps.cons ?_ POps.nil)))))))))))))))))))))))))))) ?_
 intro θ R hd
 exact Opp.plain (OG.imp (OD.loadAgg rfl ti41 rfl (i := 0) rfl (us := [.int .i64 ((hx.getD (k) hd0).1), .int .i64 ((hx.getD (k) hd0).2.1), .int .i64 ((hx.getD (k) hd0).2.2), (ux.getD (k) undef)]) rfl rfl) (by rintro _ _ ⟨rfl, rfl⟩; exact ⟨[], rfl, trivial, rfl⟩)) rfl
 intro θ R hd
 obtain ⟨h0d, _⟩ := hd
 exact Opp.plain (OG.imp (OG.call [.agg #[.int .i64 ((hx.getD (k) hd0).1), .int .i64 ((hx.getD (k) hd0).2.1), .int .i64 ((hx.getD (k) hd0).2.2), (ux.getD (k) undef)]] ent21 rfl rfl rfl rfl (by exact (matrixOk_s (ax.get (by omega)) (Ent.drop 4 ((mx (k) (by omega)).app))))) (by rintro _ _ ⟨rfl, rfl⟩; exact ⟨[], rfl, trivial, rfl⟩)) rfl
 intro θ R hd
 obtain ⟨h1d, _⟩ := hd
 exact Opp.plain (OG.imp (OD.not rfl rfl) (by rintro _ _ ⟨rfl, rfl⟩; exact ⟨[], congrArg Value.bool hg8, trivial, rfl⟩)) rfl
 intro θ R hd
 obtain ⟨h2d, _⟩ := hd
 exact Opp.plain (OG.imp (OD.move rfl rfl) (by rintro _ _ ⟨rfl, rfl⟩; exact ⟨[], rfl, trivial, rfl⟩)) rfl
 intro θ R hd
 obtain ⟨h3d, _⟩ := hd
 exact Opp.on (OG.imp (OD.fieldAddr rfl rfl fa41_1) (by rintro _ _ ⟨rfl, rfl⟩; exact ⟨[], rfl, trivial, rfl⟩)) rfl rfl rfl
 intro θ R hd
 obtain ⟨h3d, h4d, _⟩ := hd
 exact Opp.on (OG.imp (OD.load rfl ti3 rfl (i := 0) rfl rfl) (by rintro _ _ ⟨rfl, rfl⟩; exact ⟨[], rfl, trivial, rfl⟩)) rfl rfl rfl
 intro θ R hd
 obtain ⟨h3d, _⟩ := hd
 exact Opp.on (OG.imp (OD.fieldAddr rfl rfl fa41_2) (by rintro _ _ ⟨rfl, rfl⟩; exact ⟨[], rfl, trivial, rfl⟩)) rfl rfl rfl
 intro θ R hd
 obtain ⟨h3d, h6d, _⟩ := hd
 exact Opp.on (OG.imp (OD.load rfl ti3 rfl (i := 0) rfl rfl) (by rintro _ _ ⟨rfl, rfl⟩; exact ⟨[], rfl, trivial, rfl⟩)) rfl rfl rfl
 intro θ R hd
 obtain ⟨h3d, h5d, h7d, _⟩ := hd
 exact Opp.on (OG.imp (OD.neq rfl rfl rfl) (by rintro _ _ ⟨rfl, rfl⟩; exact ⟨[], congrArg Value.bool hg9, trivial, rfl⟩)) rfl rfl rfl
 intro θ R hd
 obtain ⟨h3d, h8d, _⟩ := hd
 exact Opp.plain (OG.imp (OD.pickF rfl rfl rfl) (by rintro _ _ ⟨rfl, rfl⟩; exact ⟨[], rfl, trivial, rfl⟩)) rfl
 intro θ R hd
 obtain ⟨h9d, _⟩ := hd
 exact Opp.plain (OG.imp (OD.move rfl rfl) (by rintro _ _ ⟨rfl, rfl⟩; exact ⟨[], rfl, trivial, rfl⟩)) rfl
 intro θ R hd
 obtain ⟨h10d, _⟩ := hd
 exact Opp.off ⟨[], rfl, trivial, rfl⟩ rfl rfl rfl rfl
 intro θ R hd
 obtain ⟨h10d, h11d, _⟩ := hd
 exact Opp.off ⟨[], rfl, trivial, rfl⟩ rfl rfl rfl rfl
 intro θ R hd
 obtain ⟨h10d, _⟩ := hd
 exact Opp.off ⟨[], rfl, trivial, rfl⟩ rfl rfl rfl rfl
 intro θ R hd
 obtain ⟨h10d, h13d, _⟩ := hd
 exact Opp.off ⟨[], rfl, trivial, rfl⟩ rfl rfl rfl rfl
 intro θ R hd
 obtain ⟨h10d, h14d, _⟩ := hd
 exact Opp.off ⟨[], rfl, trivial, rfl⟩ rfl rfl rfl rfl
 intro θ R hd
 obtain ⟨h10d, h15d, _⟩ := hd
 exact Opp.off ⟨[], rfl, trivial, rfl⟩ rfl rfl rfl rfl
 intro θ R hd
 obtain ⟨h10d, h12d, h16d, _⟩ := hd
 exact Opp.off ⟨[], rfl, trivial, rfl⟩ rfl rfl rfl rfl
 intro θ R hd
 obtain ⟨h10d, h17d, _⟩ := hd
 exact Opp.plain (OG.imp (OD.pickT rfl rfl rfl) (by rintro _ _ ⟨rfl, rfl⟩; exact ⟨[], rfl, trivial, rfl⟩)) rfl
 intro θ R hd
 obtain ⟨h18d, _⟩ := hd
 exact Opp.plain (OG.imp (OD.move rfl rfl) (by rintro _ _ ⟨rfl, rfl⟩; exact ⟨[], rfl, trivial, rfl⟩)) rfl
 intro θ R hd
 obtain ⟨h19d, _⟩ := hd
 exact Opp.off ⟨[], rfl, trivial, rfl⟩ rfl rfl rfl rfl
 intro θ R hd
 obtain ⟨h19d, h20d, _⟩ := hd
 exact Opp.off ⟨[], rfl, trivial, rfl⟩ rfl rfl rfl rfl
 intro θ R hd
 obtain ⟨h19d, _⟩ := hd
 exact Opp.off ⟨[], rfl, trivial, rfl⟩ rfl rfl rfl rfl
 intro θ R hd
 obtain ⟨h19d, h22d, _⟩ := hd
 exact Opp.off ⟨[], rfl, trivial, rfl⟩ rfl rfl rfl rfl
 intro θ R hd
 obtain ⟨h19d, h23d, _⟩ := hd
 exact Opp.off ⟨[], rfl, trivial, rfl⟩ rfl rfl rfl rfl
 intro θ R hd
 obtain ⟨h19d, h24d, _⟩ := hd
 exact Opp.off ⟨[], rfl, trivial, rfl⟩ rfl rfl rfl rfl
 intro θ R hd
 obtain ⟨h19d, h21d, h25d, _⟩ := hd
 exact Opp.off ⟨[], rfl, trivial, rfl⟩ rfl rfl rfl rfl
 intro θ R hd
 obtain ⟨h19d, h26d, _⟩ := hd
 exact Opp.plain (OG.imp (OD.pickT rfl rfl rfl) (by rintro _ _ ⟨rfl, rfl⟩; exact ⟨[], rfl, trivial, rfl⟩)) rfl
 intro θ hall
 obtain ⟨_, _, _, _, _, _, _, _, _, _, _, _, _, _, _, _, _, _, _, _, _, _, _, _, _, _, _, _, _⟩ := hall
 refine G.at [] 0 (env' := [(1, .pointer (some ⟨g1, 0, none⟩)), (2, .pointer (some ⟨g2, 0, none⟩)), (17, vx), (18, .int .i64 ((hx.length : Nat))), (4, v), (19, .int .i64 ((k : Int))), (6, .pointer (some ⟨g7, 0, none⟩)), (50, .bool true)]) ⟨rfl, rfl, rfl, rfl, rfl, rfl, rfl, rfl, trivial⟩ (own' := box g7 41 [.int .i64 ((hx.getD (k) hd0).1), .int .i64 ((hx.getD (k) hd0).2.1), .int .i64 ((hx.getD (k) hd0).2.2), (ux.getD (k) undef)] :: lst 24 v (ux.take k) :: box g2 26 [.int .i64 (0), .int .i64 (0), .slice none 0 0] :: box g1 29 [vx] :: own) rfl ?_
 show G _ _ _ [] _ _ _ _
 refine G.nil (GE.then_ (GC.condT rfl (GC.seq (GC.region ?_))))
 refine G.stepD (OD.build (idx := []) (xs := []) (vs := []) (cs := []) (zs := [.int .i64 (0), .int .i64 (0), .slice none 0 0]) (r := [.int .i64 (0), .int .i64 (0), .slice none 0 0]) rfl ti26 rfl rfl rfl trivial rfl) rfl rfl rfl ?_
 refine G.stepD0 (OD.store rfl ti26 rfl rfl (us := [.int .i64 (0), .int .i64 (0), .slice none 0 0]) rfl rfl rfl (i := 2) rfl rfl) rfl rfl ?_
 refine G.stepD (OD.assign rfl rfl) rfl rfl rfl ?_
 refine G.nil (GE.then_ (GC.ret (GE.passR (GE.blockR (GE.passR (GE.passR (GE.blockR (GE.passR ?_))))))))
 refine GE.nilInts 3 ?_
 exact GE.body [0] 4 (resN rfl (RVs.cons (rv_cells ti26 rfl (i := 3) rfl rfl) (RVs.cons (rv_tmp rfl) RVs.nil)) rfl) rfl (⟨(.slice none 0 0), congr (congr (congrArg (fun (a0 : Int) (a1 : Int) (a3 : Bool) => (.tuple #[.agg #[.int .i64 (a0), .int .i64 (a1), (.slice none 0 0)], .bool (a3)] : Value)) ((by rw [alP, (show alOk hx dx = false from by first | exact alOk_no2 (by assumption) | exact alOk_no1 (aoB_few (by omega)) | exact alOk_no1 (aoB_no (by first | exact aoK_no1 (show matOkB ⟨(hx.getD k hd0).1, (hx.getD k hd0).2.1, (hx.getD k hd0).2.2, dx.getD k []⟩ = false by assumption) | exact aoK_no2 (show ¬ (hx.getD k hd0).2.1 = (hx.getD k hd0).2.2 by omega) | exact aoK_no3 (show ¬ (hx.getD k hd0).2.1 = (hx.getD 0 hd0).2.1 by omega) | exact aoK_no4 (show ¬ (hx.getD k hd0).1 = (hx.getD 0 hd0).1 by omega)) (by omega)))] <;> rfl : (0 : Int) = alP hx dx))) ((by rw [alN, (show alOk hx dx = false from by first | exact alOk_no2 (by assumption) | exact alOk_no1 (aoB_few (by omega)) | exact alOk_no1 (aoB_no (by first | exact aoK_no1 (show matOkB ⟨(hx.getD k hd0).1, (hx.getD k hd0).2.1, (hx.getD k hd0).2.2, dx.getD k []⟩ = false by assumption) | exact aoK_no2 (show ¬ (hx.getD k hd0).2.1 = (hx.getD k hd0).2.2 by omega) | exact aoK_no3 (show ¬ (hx.getD k hd0).2.1 = (hx.getD 0 hd0).2.1 by omega) | exact aoK_no4 (show ¬ (hx.getD k hd0).1 = (hx.getD 0 hd0).1 by omega)) (by omega)))] <;> rfl : (0 : Int) = alN hx dx))) (((show alOk hx dx = false from by first | exact alOk_no2 (by assumption) | exact alOk_no1 (aoB_few (by omega)) | exact alOk_no1 (aoB_no (by first | exact aoK_no1 (show matOkB ⟨(hx.getD k hd0).1, (hx.getD k hd0).2.1, (hx.getD k hd0).2.2, dx.getD k []⟩ = false by assumption) | exact aoK_no2 (show ¬ (hx.getD k hd0).2.1 = (hx.getD k hd0).2.2 by omega) | exact aoK_no3 (show ¬ (hx.getD k hd0).2.1 = (hx.getD 0 hd0).2.1 by omega) | exact aoK_no4 (show ¬ (hx.getD k hd0).1 = (hx.getD 0 hd0).1 by omega)) (by omega))).symm : (false : Bool) = alOk hx dx)), IsS.nil, congrArg (fun (l0 : List Int) => ints 3 (.slice none 0 0) l0 :: own) ((by rw [alD, (show alOk hx dx = false from by first | exact alOk_no2 (by assumption) | exact alOk_no1 (aoB_few (by omega)) | exact alOk_no1 (aoB_no (by first | exact aoK_no1 (show matOkB ⟨(hx.getD k hd0).1, (hx.getD k hd0).2.1, (hx.getD k hd0).2.2, dx.getD k []⟩ = false by assumption) | exact aoK_no2 (show ¬ (hx.getD k hd0).2.1 = (hx.getD k hd0).2.2 by omega) | exact aoK_no3 (show ¬ (hx.getD k hd0).2.1 = (hx.getD 0 hd0).2.1 by omega) | exact aoK_no4 (show ¬ (hx.getD k hd0).1 = (hx.getD 0 hd0).1 by omega)) (by omega)))] <;> rfl : [] = alD hx dx))⟩)
 have hg9p := hg9
 replace hg9p := eq_of_bne_false hg9p
 rcases Bool.eq_false_or_eq_true (((hx.getD (k) hd0).2.1) != ((hx.getD (0) hd0).2.1)) with hg10 | hg10
 have hg10p := hg10
 replace hg10p := ne_of_bne hg10p
 refine GC.at [] 0 (env' := [(1, .pointer (some ⟨g1, 0, none⟩)), (2, .pointer (some ⟨g2, 0, none⟩)), (17, vx), (18, .int .i64 ((hx.length : Nat))), (4, v), (19, .int .i64 ((k : Int))), (6, .pointer (some ⟨g7, 0, none⟩))]) ⟨rfl, rfl, rfl, rfl, rfl, rfl, rfl, trivial⟩ rfl ?_
 refine GC.par (its := [⟨23, [], [], [], [], fun _ => .agg #[.int .i64 ((hx.getD (k) hd0).1), .int .i64 ((hx.getD (k) hd0).2.1), .int .i64 ((hx.getD (k) hd0).2.2), (ux.getD (k) undef)], fun _ => True, fun _ => []⟩,
     ⟨24, [(0, 23)], [], [], [], fun _ => .bool (matOkB ⟨(hx.getD (k) hd0).1, (hx.getD (k) hd0).2.1, (hx.getD (k) hd0).2.2, dx.getD (k) []⟩), fun _ => True, fun _ => []⟩,
     ⟨25, [(1, 24)], [], [], [], fun _ => .bool false, fun _ => True, fun _ => []⟩,
     ⟨26, [(2, 25)], [], [], [], fun _ => .bool false, fun _ => True, fun _ => []⟩,
     ⟨27, [(3, 26)], [], [], [], fun _ => .pointer (some ⟨g7, 1, none⟩), fun _ => True, fun _ => []⟩,
     ⟨28, [(3, 26), (4, 27)], [], [], [], fun _ => .int .i64 ((hx.getD (k) hd0).2.1), fun _ => True, fun _ => []⟩,
     ⟨29, [(3, 26)], [], [], [], fun _ => .pointer (some ⟨g7, 2, none⟩), fun _ => True, fun _ => []⟩,
     ⟨30, [(3, 26), (6, 29)], [], [], [], fun _ => .int .i64 ((hx.getD (k) hd0).2.2), fun _ => True, fun _ => []⟩,
     ⟨31, [(3, 26), (5, 28), (7, 30)], [], [], [], fun _ => .bool false, fun _ => True, fun _ => []⟩,
     ⟨32, [(3, 26), (8, 31)], [], [], [], fun _ => .bool false, fun _ => True, fun _ => []⟩,
     ⟨33, [(9, 32)], [], [], [], fun _ => .bool false, fun _ => True, fun _ => []⟩,
     ⟨34, [(10, 33)], [], [], [], fun _ => .pointer (some ⟨g7, 1, none⟩), fun _ => True, fun _ => []⟩,
     ⟨35, [(10, 33), (11, 34)], [], [], [], fun _ => .int .i64 ((hx.getD (k) hd0).2.1), fun _ => True, fun _ => []⟩,
     ⟨36, [(10, 33)], [], [], [], fun _ => vx, fun _ => True, fun _ => []⟩,
     ⟨37, [(10, 33), (13, 36)], [], [], [], fun _ => elemPtr vx 4 (0), fun _ => True, fun _ => []⟩,
     ⟨38, [(10, 33), (14, 37)], [], [], [], fun _ => elemPtrF vx 4 (0) 1, fun _ => True, fun _ => []⟩,
     ⟨39, [(10, 33), (15, 38)], [], [], [], fun _ => .int .i64 ((hx.getD (0) hd0).2.1), fun _ => True, fun _ => []⟩,
     ⟨40, [(10, 33), (12, 35), (16, 39)], [], [], [], fun _ => .bool true, fun _ => True, fun _ => []⟩,
     ⟨41, [(10, 33), (17, 40)], [], [], [], fun _ => .bool true, fun _ => True, fun _ => []⟩,
     ⟨42, [(18, 41)], [], [], [], fun _ => .bool true, fun _ => True, fun _ => []⟩,
     ⟨43, [(19, 42)], [], [], [], fun _ => undef, fun _ => True, fun _ => []⟩,
     ⟨44, [(19, 42), (20, 43)], [], [], [], fun _ => undef, fun _ => True, fun _ => []⟩,
     ⟨45, [(19, 42)], [], [], [], fun _ => undef, fun _ => True, fun _ => []⟩,
     ⟨46, [(19, 42), (22, 45)], [], [], [], fun _ => undef, fun _ => True, fun _ => []⟩,
     ⟨47, [(19, 42), (23, 46)], [], [], [], fun _ => undef, fun _ => True, fun _ => []⟩,
     ⟨48, [(19, 42), (24, 47)], [], [], [], fun _ => undef, fun _ => True, fun _ => []⟩,
     ⟨49, [(19, 42), (21, 44), (25, 48)], [], [], [], fun _ => undef, fun _ => True, fun _ => []⟩,
     ⟨50, [(19, 42), (26, 49)], [], [], [], fun _ => .bool true, fun _ => True, fun _ => []⟩]) (by kernel_rfl) (by kernel_rfl) (POps.cons ?_ (POps.cons ?_ (POps.cons ?_ (POps.cons ?_ (POps.cons ?_ (POps.cons ?_ (POps.cons ?_ (POps.cons ?_ (POps.cons ?_ (POps.cons ?_ (POps.cons ?_ (POps.cons ?_ (POps.cons ?_ (POps.cons ?_ (POps.cons ?_ (POps.cons ?_ (POps.cons ?_ (POps.cons ?_ (POps.cons ?_ (POps.cons ?_ (POps.cons ?_ (POps.cons ?_ (POps.cons ?_ (POps.cons ?_ (POps.cons ?_ (POps.cons ?_ (POps.cons ?_ (POps.cons ?_ POps.nil)))))))))))))))))))))))))))) ?_
 intro θ R hd
 exact Opp.plain (OG.imp (OD.loadAgg rfl ti41 rfl (i := 0) rfl (us := [.int .i64 ((hx.getD (k) hd0).1), .int .i64 ((hx.getD (k) hd0).2.1), .int .i64 ((hx.getD (k) hd0).2.2), (ux.getD (k) undef)]) rfl rfl) (by rintro _ _ ⟨rfl, rfl⟩; exact ⟨[], rfl, trivial, rfl⟩)) rfl
 intro θ R hd
 obtain ⟨h0d, _⟩ := hd
 exact Opp.plain (OG.imp (OG.call [.agg #[.int .i64 ((hx.getD (k) hd0).1), .int .i64 ((hx.getD (k) hd0).2.1), .int .i64 ((hx.getD (k) hd0).2.2), (ux.getD (k) undef)]] ent21 rfl rfl rfl rfl (by exact (matrixOk_s (ax.get (by omega)) (Ent.drop 4 ((mx (k) (by omega)).app))))) (by rintro _ _ ⟨rfl, rfl⟩; exact ⟨[], rfl, trivial, rfl⟩)) rfl
 intro θ R hd
 obtain ⟨h1d, _⟩ := hd
 exact Opp.plain (OG.imp (OD.not rfl rfl) (by rintro _ _ ⟨rfl, rfl⟩; exact ⟨[], congrArg Value.bool hg8, trivial, rfl⟩)) rfl
 intro θ R hd
 obtain ⟨h2d, _⟩ := hd
 exact Opp.plain (OG.imp (OD.move rfl rfl) (by rintro _ _ ⟨rfl, rfl⟩; exact ⟨[], rfl, trivial, rfl⟩)) rfl
 intro θ R hd
 obtain ⟨h3d, _⟩ := hd
 exact Opp.on (OG.imp (OD.fieldAddr rfl rfl fa41_1) (by rintro _ _ ⟨rfl, rfl⟩; exact ⟨[], rfl, trivial, rfl⟩)) rfl rfl rfl
 intro θ R hd
 obtain ⟨h3d, h4d, _⟩ := hd
 exact Opp.on (OG.imp (OD.load rfl ti3 rfl (i := 0) rfl rfl) (by rintro _ _ ⟨rfl, rfl⟩; exact ⟨[], rfl, trivial, rfl⟩)) rfl rfl rfl
 intro θ R hd
 obtain ⟨h3d, _⟩ := hd
 exact Opp.on (OG.imp (OD.fieldAddr rfl rfl fa41_2) (by rintro _ _ ⟨rfl, rfl⟩; exact ⟨[], rfl, trivial, rfl⟩)) rfl rfl rfl
 intro θ R hd
 obtain ⟨h3d, h6d, _⟩ := hd
 exact Opp.on (OG.imp (OD.load rfl ti3 rfl (i := 0) rfl rfl) (by rintro _ _ ⟨rfl, rfl⟩; exact ⟨[], rfl, trivial, rfl⟩)) rfl rfl rfl
 intro θ R hd
 obtain ⟨h3d, h5d, h7d, _⟩ := hd
 exact Opp.on (OG.imp (OD.neq rfl rfl rfl) (by rintro _ _ ⟨rfl, rfl⟩; exact ⟨[], congrArg Value.bool hg9, trivial, rfl⟩)) rfl rfl rfl
 intro θ R hd
 obtain ⟨h3d, h8d, _⟩ := hd
 exact Opp.plain (OG.imp (OD.pickF rfl rfl rfl) (by rintro _ _ ⟨rfl, rfl⟩; exact ⟨[], rfl, trivial, rfl⟩)) rfl
 intro θ R hd
 obtain ⟨h9d, _⟩ := hd
 exact Opp.plain (OG.imp (OD.move rfl rfl) (by rintro _ _ ⟨rfl, rfl⟩; exact ⟨[], rfl, trivial, rfl⟩)) rfl
 intro θ R hd
 obtain ⟨h10d, _⟩ := hd
 exact Opp.on (OG.imp (OD.fieldAddr rfl rfl fa41_1) (by rintro _ _ ⟨rfl, rfl⟩; exact ⟨[], rfl, trivial, rfl⟩)) rfl rfl rfl
 intro θ R hd
 obtain ⟨h10d, h11d, _⟩ := hd
 exact Opp.on (OG.imp (OD.load rfl ti3 rfl (i := 0) rfl rfl) (by rintro _ _ ⟨rfl, rfl⟩; exact ⟨[], rfl, trivial, rfl⟩)) rfl rfl rfl
 intro θ R hd
 obtain ⟨h10d, _⟩ := hd
 exact Opp.on (OG.imp (OD.load rfl ti29 rfl (i := 3) rfl rfl) (by rintro _ _ ⟨rfl, rfl⟩; exact ⟨[], rfl, trivial, rfl⟩)) rfl rfl rfl
 intro θ R hd
 obtain ⟨h10d, h13d, _⟩ := hd
 exact Opp.on (OG.imp (OD.indexAddr rfl et29 rfl (Ent.drop 4 ex.app) rfl (by omega)) (by rintro _ _ ⟨rfl, rfl⟩; exact ⟨[], rfl, trivial, rfl⟩)) rfl rfl rfl
 intro θ R hd
 obtain ⟨h10d, h14d, _⟩ := hd
 exact Opp.on (OG.imp (OD.fieldAddrE rfl rfl (Ent.drop 4 ex.app) (by omega) fa41_1) (by rintro _ _ ⟨rfl, rfl⟩; exact ⟨[], rfl, trivial, rfl⟩)) rfl rfl rfl
 intro θ R hd
 obtain ⟨h10d, h15d, _⟩ := hd
 exact Opp.on (OG.imp (OD.loadField rfl ti3 rfl (Ent.drop 4 ex.app) (by omega) (by decide) (hdR_f1 (by omega))) (by rintro _ _ ⟨rfl, rfl⟩; exact ⟨[], rfl, trivial, rfl⟩)) rfl rfl rfl
 intro θ R hd
 obtain ⟨h10d, h12d, h16d, _⟩ := hd
 exact Opp.on (OG.imp (OD.neq rfl rfl rfl) (by rintro _ _ ⟨rfl, rfl⟩; exact ⟨[], congrArg Value.bool hg10, trivial, rfl⟩)) rfl rfl rfl
 intro θ R hd
 obtain ⟨h10d, h17d, _⟩ := hd
 exact Opp.plain (OG.imp (OD.pickF rfl rfl rfl) (by rintro _ _ ⟨rfl, rfl⟩; exact ⟨[], rfl, trivial, rfl⟩)) rfl
 intro θ R hd
 obtain ⟨h18d, _⟩ := hd
 exact Opp.plain (OG.imp (OD.move rfl rfl) (by rintro _ _ ⟨rfl, rfl⟩; exact ⟨[], rfl, trivial, rfl⟩)) rfl
 intro θ R hd
 obtain ⟨h19d, _⟩ := hd
 exact Opp.off ⟨[], rfl, trivial, rfl⟩ rfl rfl rfl rfl
 intro θ R hd
 obtain ⟨h19d, h20d, _⟩ := hd
 exact Opp.off ⟨[], rfl, trivial, rfl⟩ rfl rfl rfl rfl
 intro θ R hd
 obtain ⟨h19d, _⟩ := hd
 exact Opp.off ⟨[], rfl, trivial, rfl⟩ rfl rfl rfl rfl
 intro θ R hd
 obtain ⟨h19d, h22d, _⟩ := hd
 exact Opp.off ⟨[], rfl, trivial, rfl⟩ rfl rfl rfl rfl
 intro θ R hd
 obtain ⟨h19d, h23d, _⟩ := hd
 exact Opp.off ⟨[], rfl, trivial, rfl⟩ rfl rfl rfl rfl
 intro θ R hd
 obtain ⟨h19d, h24d, _⟩ := hd
 exact Opp.off ⟨[], rfl, trivial, rfl⟩ rfl rfl rfl rfl
 intro θ R hd
 obtain ⟨h19d, h21d, h25d, _⟩ := hd
 exact Opp.off ⟨[], rfl, trivial, rfl⟩ rfl rfl rfl rfl
 intro θ R hd
 obtain ⟨h19d, h26d, _⟩ := hd
 exact Opp.plain (OG.imp (OD.pickT rfl rfl rfl) (by rintro _ _ ⟨rfl, rfl⟩; exact ⟨[], rfl, trivial, rfl⟩)) rfl
 intro θ hall
 obtain ⟨_, _, _, _, _, _, _, _, _, _, _, _, _, _, _, _, _, _, _, _, _, _, _, _, _, _, _, _, _⟩ := hall
 refine G.at [] 0 (env' := [(1, .pointer (some ⟨g1, 0, none⟩)), (2, .pointer (some ⟨g2, 0, none⟩)), (17, vx), (18, .int .i64 ((hx.length : Nat))), (4, v), (19, .int .i64 ((k : Int))), (6, .pointer (some ⟨g7, 0, none⟩)), (50, .bool true)]) ⟨rfl, rfl, rfl, rfl, rfl, rfl, rfl, rfl, trivial⟩ (own' := box g7 41 [.int .i64 ((hx.getD (k) hd0).1), .int .i64 ((hx.getD (k) hd0).2.1), .int .i64 ((hx.getD (k) hd0).2.2), (ux.getD (k) undef)] :: lst 24 v (ux.take k) :: box g2 26 [.int .i64 (0), .int .i64 (0), .slice none 0 0] :: box g1 29 [vx] :: own) rfl ?_
 show G _ _ _ [] _ _ _ _
 refine G.nil (GE.then_ (GC.condT rfl (GC.seq (GC.region ?_))))
 refine G.stepD (OD.build (idx := []) (xs := []) (vs := []) (cs := []) (zs := [.int .i64 (0), .int .i64 (0), .slice none 0 0]) (r := [.int .i64 (0), .int .i64 (0), .slice none 0 0]) rfl ti26 rfl rfl rfl trivial rfl) rfl rfl rfl ?_
 refine G.stepD0 (OD.store rfl ti26 rfl rfl (us := [.int .i64 (0), .int .i64 (0), .slice none 0 0]) rfl rfl rfl (i := 2) rfl rfl) rfl rfl ?_
 refine G.stepD (OD.assign rfl rfl) rfl rfl rfl ?_
 refine G.nil (GE.then_ (GC.ret (GE.passR (GE.blockR (GE.passR (GE.passR (GE.blockR (GE.passR ?_))))))))
 refine GE.nilInts 3 ?_
 exact GE.body [0] 4 (resN rfl (RVs.cons (rv_cells ti26 rfl (i := 3) rfl rfl) (RVs.cons (rv_tmp rfl) RVs.nil)) rfl) rfl (⟨(.slice none 0 0), congr (congr (congrArg (fun (a0 : Int) (a1 : Int) (a3 : Bool) => (.tuple #[.agg #[.int .i64 (a0), .int .i64 (a1), (.slice none 0 0)], .bool (a3)] : Value)) ((by rw [alP, (show alOk hx dx = false from by first | exact alOk_no2 (by assumption) | exact alOk_no1 (aoB_few (by omega)) | exact alOk_no1 (aoB_no (by first | exact aoK_no1 (show matOkB ⟨(hx.getD k hd0).1, (hx.getD k hd0).2.1, (hx.getD k hd0).2.2, dx.getD k []⟩ = false by assumption) | exact aoK_no2 (show ¬ (hx.getD k hd0).2.1 = (hx.getD k hd0).2.2 by omega) | exact aoK_no3 (show ¬ (hx.getD k hd0).2.1 = (hx.getD 0 hd0).2.1 by omega) | exact aoK_no4 (show ¬ (hx.getD k hd0).1 = (hx.getD 0 hd0).1 by omega)) (by omega)))] <;> rfl : (0 : Int) = alP hx dx))) ((by rw [alN, (show alOk hx dx = false from by first | exact alOk_no2 (by assumption) | exact alOk_no1 (aoB_few (by omega)) | exact alOk_no1 (aoB_no (by first | exact aoK_no1 (show matOkB ⟨(hx.getD k hd0).1, (hx.getD k hd0).2.1, (hx.getD k hd0).2.2, dx.getD k []⟩ = false by assumption) | exact aoK_no2 (show ¬ (hx.getD k hd0).2.1 = (hx.getD k hd0).2.2 by omega) | exact aoK_no3 (show ¬ (hx.getD k hd0).2.1 = (hx.getD 0 hd0).2.1 by omega) | exact aoK_no4 (show ¬ (hx.getD k hd0).1 = (hx.getD 0 hd0).1 by omega)) (by omega)))] <;> rfl : (0 : Int) = alN hx dx))) (((show alOk hx dx = false from by first | exact alOk_no2 (by assumption) | exact alOk_no1 (aoB_few (by omega)) | exact alOk_no1 (aoB_no (by first | exact aoK_no1 (show matOkB ⟨(hx.getD k hd0).1, (hx.getD k hd0).2.1, (hx.getD k hd0).2.2, dx.getD k []⟩ = false by assumption) | exact aoK_no2 (show ¬ (hx.getD k hd0).2.1 = (hx.getD k hd0).2.2 by omega) | exact aoK_no3 (show ¬ (hx.getD k hd0).2.1 = (hx.getD 0 hd0).2.1 by omega) | exact aoK_no4 (show ¬ (hx.getD k hd0).1 = (hx.getD 0 hd0).1 by omega)) (by omega))).symm : (false : Bool) = alOk hx dx)), IsS.nil, congrArg (fun (l0 : List Int) => ints 3 (.slice none 0 0) l0 :: own) ((by rw [alD, (show alOk hx dx = false from by first | exact alOk_no2 (by assumption) | exact alOk_no1 (aoB_few (by omega)) | exact alOk_no1 (aoB_no (by first | exact aoK_no1 (show matOkB ⟨(hx.getD k hd0).1, (hx.getD k hd0).2.1, (hx.getD k hd0).2.2, dx.getD k []⟩ = false by assumption) | exact aoK_no2 (show ¬ (hx.getD k hd0).2.1 = (hx.getD k hd0).2.2 by omega) | exact aoK_no3 (show ¬ (hx.getD k hd0).2.1 = (hx.getD 0 hd0).2.1 by omega) | exact aoK_no4 (show ¬ (hx.getD k hd0).1 = (hx.getD 0 hd0).1 by omega)) (by omega)))] <;> rfl : [] = alD hx dx))⟩)
 have hg10p := hg10
 replace hg10p := eq_of_bne_false hg10p
 refine GC.at [] 0 (env' := [(1, .pointer (some ⟨g1, 0, none⟩)), (2, .pointer (some ⟨g2, 0, none⟩)), (17, vx), (18, .int .i64 ((hx.length : Nat))), (4, v), (19, .int .i64 ((k : Int))), (6, .pointer (some ⟨g7, 0, none⟩))]) ⟨rfl, rfl, rfl, rfl, rfl, rfl, rfl, trivial⟩ rfl ?_
 refine GC.par (its := [⟨23, [], [], [], [], fun _ => .agg #[.int .i64 ((hx.getD (k) hd0).1), .int .i64 ((hx.getD (k) hd0).2.1), .int .i64 ((hx.getD (k) hd0).2.2), (ux.getD (k) undef)], fun _ => True, fun _ => []⟩,
     ⟨24, [(0, 23)], [], [], [], fun _ => .bool (matOkB ⟨(hx.getD (k) hd0).1, (hx.getD (k) hd0).2.1, (hx.getD (k) hd0).2.2, dx.getD (k) []⟩), fun _ => True, fun _ => []⟩,
     ⟨25, [(1, 24)], [], [], [], fun _ => .bool false, fun _ => True, fun _ => []⟩,
     ⟨26, [(2, 25)], [], [], [], fun _ => .bool false, fun _ => True, fun _ => []⟩,
     ⟨27, [(3, 26)], [], [], [], fun _ => .pointer (some ⟨g7, 1, none⟩), fun _ => True, fun _ => []⟩,
     ⟨28, [(3, 26), (4, 27)], [], [], [], fun _ => .int .i64 ((hx.getD (k) hd0).2.1), fun _ => True, fun _ => []⟩,
     ⟨29, [(3, 26)], [], [], [], fun _ => .pointer (some ⟨g7, 2, none⟩), fun _ => True, fun _ => []⟩,
     ⟨30, [(3, 26), (6, 29)], [], [], [], fun _ => .int .i64 ((hx.getD (k) hd0).2.2), fun _ => True, fun _ => []⟩,
     ⟨31, [(3, 26), (5, 28), (7, 30)], [], [], [], fun _ => .bool false, fun _ => True, fun _ => []⟩,
     ⟨32, [(3, 26), (8, 31)], [], [], [], fun _ => .bool false, fun _ => True, fun _ => []⟩,
     ⟨33, [(9, 32)], [], [], [], fun _ => .bool false, fun _ => True, fun _ => []⟩,
     ⟨34, [(10, 33)], [], [], [], fun _ => .pointer (some ⟨g7, 1, none⟩), fun _ => True, fun _ => []⟩,
     ⟨35, [(10, 33), (11, 34)], [], [], [], fun _ => .int .i64 ((hx.getD (k) hd0).2.1), fun _ => True, fun _ => []⟩,
     ⟨36, [(10, 33)], [], [], [], fun _ => vx, fun _ => True, fun _ => []⟩,
     ⟨37, [(10, 33), (13, 36)], [], [], [], fun _ => elemPtr vx 4 (0), fun _ => True, fun _ => []⟩,
     ⟨38, [(10, 33), (14, 37)], [], [], [], fun _ => elemPtrF vx 4 (0) 1, fun _ => True, fun _ => []⟩,
     ⟨39, [(10, 33), (15, 38)], [], [], [], fun _ => .int .i64 ((hx.getD (0) hd0).2.1), fun _ => True, fun _ => []⟩,
     ⟨40, [(10, 33), (12, 35), (16, 39)], [], [], [], fun _ => .bool false, fun _ => True, fun _ => []⟩,
     ⟨41, [(10, 33), (17, 40)], [], [], [], fun _ => .bool false, fun _ => True, fun _ => []⟩,
     ⟨42, [(18, 41)], [], [], [], fun _ => .bool false, fun _ => True, fun _ => []⟩,
     ⟨43, [(19, 42)], [], [], [], fun _ => .pointer (some ⟨g7, 0, none⟩), fun _ => True, fun _ => []⟩,
     ⟨44, [(19, 42), (20, 43)], [], [], [], fun _ => .int .i64 ((hx.getD (k) hd0).1), fun _ => True, fun _ => []⟩,
     ⟨45, [(19, 42)], [], [], [], fun _ => vx, fun _ => True, fun _ => []⟩,
     ⟨46, [(19, 42), (22, 45)], [], [], [], fun _ => elemPtr vx 4 (0), fun _ => True, fun _ => []⟩,
     ⟨47, [(19, 42), (23, 46)], [], [], [], fun _ => elemPtrF vx 4 (0) 0, fun _ => True, fun _ => []⟩,
     ⟨48, [(19, 42), (24, 47)], [], [], [], fun _ => .int .i64 ((hx.getD (0) hd0).1), fun _ => True, fun _ => []⟩,
     ⟨49, [(19, 42), (21, 44), (25, 48)], [], [], [], fun _ => .bool (((hx.getD (k) hd0).1) != ((hx.getD (0) hd0).1)), fun _ => True, fun _ => []⟩,
     ⟨50, [(19, 42), (26, 49)], [], [], [], fun _ => .bool (((hx.getD (k) hd0).1) != ((hx.getD (0) hd0).1)), fun _ => True, fun _ => []⟩]) (by kernel_rfl) (by kernel_rfl) (POps.cons ?_ (POps.cons ?_ (POps.cons ?_ (POps.cons ?_ (POps.cons ?_ (POps.cons ?_ (POps.cons ?_ (POps.cons ?_ (POps.cons ?_ (POps.cons ?_ (POps.cons ?_ (POps.cons ?_ (POps.cons ?_ (POps.cons ?_ (POps.cons ?_ (POps.cons ?_ (POps.cons ?_ (POps.cons ?_ (POps.cons ?_ (POps.cons ?_ (POps.cons ?_ (POps.cons ?_ (POps.cons ?_ (POps.cons ?_ (POps.cons ?_ (POps.cons ?_ (POps.cons ?_ (POps.cons ?_ POps.nil)))))))))))))))))))))))))))) ?_
 intro θ R hd
 exact Opp.plain (OG.imp (OD.loadAgg rfl ti41 rfl (i := 0) rfl (us := [.int .i64 ((hx.getD (k) hd0).1), .int .i64 ((hx.getD (k) hd0).2.1), .int .i64 ((hx.getD (k) hd0).2.2), (ux.getD (k) undef)]) rfl rfl) (by rintro _ _ ⟨rfl, rfl⟩; exact ⟨[], rfl, trivial, rfl⟩)) rfl
 intro θ R hd
 obtain ⟨h0d, _⟩ := hd
 exact Opp.plain (OG.imp (OG.call [.agg #[.int .i64 ((hx.getD (k) hd0).1), .int .i64 ((hx.getD (k) hd0).2.1), .int .i64 ((hx.getD (k) hd0).2.2), (ux.getD (k) undef)]] ent21 rfl rfl rfl rfl (by exact (matrixOk_s (ax.get (by omega)) (Ent.drop 4 ((mx (k) (by omega)).app))))) (by rintro _ _ ⟨rfl, rfl⟩; exact ⟨[], rfl, trivial, rfl⟩)) rfl
 intro θ R hd
 obtain ⟨h1d, _⟩ := hd
 exact Opp.plain (OG.imp (OD.not rfl rfl) (by rintro _ _ ⟨rfl, rfl⟩; exact ⟨[], congrArg Value.bool hg8, trivial, rfl⟩)) rfl
 intro θ R hd
 obtain ⟨h2d, _⟩ := hd
 exact Opp.plain (OG.imp (OD.move rfl rfl) (by rintro _ _ ⟨rfl, rfl⟩; exact ⟨[], rfl, trivial, rfl⟩)) rfl
 intro θ R hd
 obtain ⟨h3d, _⟩ := hd
 exact Opp.on (OG.imp (OD.fieldAddr rfl rfl fa41_1) (by rintro _ _ ⟨rfl, rfl⟩; exact ⟨[], rfl, trivial, rfl⟩)) rfl rfl rfl
 intro θ R hd
 obtain ⟨h3d, h4d, _⟩ := hd
 exact Opp.on (OG.imp (OD.load rfl ti3 rfl (i := 0) rfl rfl) (by rintro _ _ ⟨rfl, rfl⟩; exact ⟨[], rfl, trivial, rfl⟩)) rfl rfl rfl
 intro θ R hd
 obtain ⟨h3d, _⟩ := hd
 exact Opp.on (OG.imp (OD.fieldAddr rfl rfl fa41_2) (by rintro _ _ ⟨rfl, rfl⟩; exact ⟨[], rfl, trivial, rfl⟩)) rfl rfl rfl
 intro θ R hd
 obtain ⟨h3d, h6d, _⟩ := hd
 exact Opp.on (OG.imp (OD.load rfl ti3 rfl (i := 0) rfl rfl) (by rintro _ _ ⟨rfl, rfl⟩; exact ⟨[], rfl, trivial, rfl⟩)) rfl rfl rfl
 intro θ R hd
 obtain ⟨h3d, h5d, h7d, _⟩ := hd
 exact Opp.on (OG.imp (OD.neq rfl rfl rfl) (by rintro _ _ ⟨rfl, rfl⟩; exact ⟨[], congrArg Value.bool hg9, trivial, rfl⟩)) rfl rfl rfl
 intro θ R hd
 obtain ⟨h3d, h8d, _⟩ := hd
 exact Opp.plain (OG.imp (OD.pickF rfl rfl rfl) (by rintro _ _ ⟨rfl, rfl⟩; exact ⟨[], rfl, trivial, rfl⟩)) rfl
 intro θ R hd
 obtain ⟨h9d, _⟩ := hd
 exact Opp.plain (OG.imp (OD.move rfl rfl) (by rintro _ _ ⟨rfl, rfl⟩; exact ⟨[], rfl, trivial, rfl⟩)) rfl
 intro θ R hd
 obtain ⟨h10d, _⟩ := hd
 exact Opp.on (OG.imp (OD.fieldAddr rfl rfl fa41_1) (by rintro _ _ ⟨rfl, rfl⟩; exact ⟨[], rfl, trivial, rfl⟩)) rfl rfl rfl
 intro θ R hd
 obtain ⟨h10d, h11d, _⟩ := hd
 exact Opp.on (OG.imp (OD.load rfl ti3 rfl (i := 0) rfl rfl) (by rintro _ _ ⟨rfl, rfl⟩; exact ⟨[], rfl, trivial, rfl⟩)) rfl rfl rfl
 intro θ R hd
 obtain ⟨h10d, _⟩ := hd
 exact Opp.on (OG.imp (OD.load rfl ti29 rfl (i := 3) rfl rfl) (by rintro _ _ ⟨rfl, rfl⟩; exact ⟨[], rfl, trivial, rfl⟩)) rfl rfl rfl
 intro θ R hd
 obtain ⟨h10d, h13d, _⟩ := hd
 exact Opp.on (OG.imp (OD.indexAddr rfl et29 rfl (Ent.drop 4 ex.app) rfl (by omega)) (by rintro _ _ ⟨rfl, rfl⟩; exact ⟨[], rfl, trivial, rfl⟩)) rfl rfl rfl
 intro θ R hd
 obtain ⟨h10d, h14d, _⟩ := hd
 exact Opp.on (OG.imp (OD.fieldAddrE rfl rfl (Ent.drop 4 ex.app) (by omega) fa41_1) (by rintro _ _ ⟨rfl, rfl⟩; exact ⟨[], rfl, trivial, rfl⟩)) rfl rfl rfl
 intro θ R hd
 obtain ⟨h10d, h15d, _⟩ := hd
 exact Opp.on (OG.imp (OD.loadField rfl ti3 rfl (Ent.drop 4 ex.app) (by omega) (by decide) (hdR_f1 (by omega))) (by rintro _ _ ⟨rfl, rfl⟩; exact ⟨[], rfl, trivial, rfl⟩)) rfl rfl rfl
 intro θ R hd
 obtain ⟨h10d, h12d, h16d, _⟩ := hd
 exact Opp.on (OG.imp (OD.neq rfl rfl rfl) (by rintro _ _ ⟨rfl, rfl⟩; exact ⟨[], congrArg Value.bool hg10, trivial, rfl⟩)) rfl rfl rfl
 intro θ R hd
 obtain ⟨h10d, h17d, _⟩ := hd
 exact Opp.plain (OG.imp (OD.pickF rfl rfl rfl) (by rintro _ _ ⟨rfl, rfl⟩; exact ⟨[], rfl, trivial, rfl⟩)) rfl
 intro θ R hd
 obtain ⟨h18d, _⟩ := hd
 exact Opp.plain (OG.imp (OD.move rfl rfl) (by rintro _ _ ⟨rfl, rfl⟩; exact ⟨[], rfl, trivial, rfl⟩)) rfl
 intro θ R hd
 obtain ⟨h19d, _⟩ := hd
 exact Opp.on (OG.imp (OD.fieldAddr rfl rfl fa41_0) (by rintro _ _ ⟨rfl, rfl⟩; exact ⟨[], rfl, trivial, rfl⟩)) rfl rfl rfl
 intro θ R hd
 obtain ⟨h19d, h20d, _⟩ := hd
 exact Opp.on (OG.imp (OD.load rfl ti3 rfl (i := 0) rfl rfl) (by rintro _ _ ⟨rfl, rfl⟩; exact ⟨[], rfl, trivial, rfl⟩)) rfl rfl rfl
 intro θ R hd
 obtain ⟨h19d, _⟩ := hd
 exact Opp.on (OG.imp (OD.load rfl ti29 rfl (i := 3) rfl rfl) (by rintro _ _ ⟨rfl, rfl⟩; exact ⟨[], rfl, trivial, rfl⟩)) rfl rfl rfl
 intro θ R hd
 obtain ⟨h19d, h22d, _⟩ := hd
 exact Opp.on (OG.imp (OD.indexAddr rfl et29 rfl (Ent.drop 4 ex.app) rfl (by omega)) (by rintro _ _ ⟨rfl, rfl⟩; exact ⟨[], rfl, trivial, rfl⟩)) rfl rfl rfl
 intro θ R hd
 obtain ⟨h19d, h23d, _⟩ := hd
 exact Opp.on (OG.imp (OD.fieldAddrE rfl rfl (Ent.drop 4 ex.app) (by omega) fa41_0) (by rintro _ _ ⟨rfl, rfl⟩; exact ⟨[], rfl, trivial, rfl⟩)) rfl rfl rfl
 intro θ R hd
 obtain ⟨h19d, h24d, _⟩ := hd
 exact Opp.on (OG.imp (OD.loadField rfl ti3 rfl (Ent.drop 4 ex.app) (by omega) (by decide) (hdR_f0 (by omega))) (by rintro _ _ ⟨rfl, rfl⟩; exact ⟨[], rfl, trivial, rfl⟩)) rfl rfl rfl
 intro θ R hd
 obtain ⟨h19d, h21d, h25d, _⟩ := hd
 exact Opp.on (OG.imp (OD.neq rfl rfl rfl) (by rintro _ _ ⟨rfl, rfl⟩; exact ⟨[], rfl, trivial, rfl⟩)) rfl rfl rfl
 intro θ R hd
 obtain ⟨h19d, h26d, _⟩ := hd
 exact Opp.plain (OG.imp (OD.pickF rfl rfl rfl) (by rintro _ _ ⟨rfl, rfl⟩; exact ⟨[], rfl, trivial, rfl⟩)) rfl
 intro θ hall
 obtain ⟨_, _, _, _, _, _, _, _, _, _, _, _, _, _, _, _, _, _, _, _, _, _, _, _, _, _, _, _, _⟩ := hall
 refine G.at [] 0 (env' := [(1, .pointer (some ⟨g1, 0, none⟩)), (2, .pointer (some ⟨g2, 0, none⟩)), (17, vx), (18, .int .i64 ((hx.length : Nat))), (4, v), (19, .int .i64 ((k : Int))), (6, .pointer (some ⟨g7, 0, none⟩)), (50, .bool (((hx.getD (k) hd0).1) != ((hx.getD (0) hd0).1)))]) ⟨rfl, rfl, rfl, rfl, rfl, rfl, rfl, rfl, trivial⟩ (own' := box g7 41 [.int .i64 ((hx.getD (k) hd0).1), .int .i64 ((hx.getD (k) hd0).2.1), .int .i64 ((hx.getD (k) hd0).2.2), (ux.getD (k) undef)] :: lst 24 v (ux.take k) :: box g2 26 [.int .i64 (0), .int .i64 (0), .slice none 0 0] :: box g1 29 [vx] :: own) rfl ?_
 show G _ _ _ [] _ _ _ _
 refine G.nil (GE.then_ ?_)
 refine GC.cond rfl (fun hc11 => ?_) (fun hc11 => ?_)
 replace hc11 := ne_of_bne hc11
 refine GC.seq (GC.region ?_)
 refine G.stepD (OD.build (idx := []) (xs := []) (vs := []) (cs := []) (zs := [.int .i64 (0), .int .i64 (0), .slice none 0 0]) (r := [.int .i64 (0), .int .i64 (0), .slice none 0 0]) rfl ti26 rfl rfl rfl trivial rfl) rfl rfl rfl ?_
 refine G.stepD0 (OD.store rfl ti26 rfl rfl (us := [.int .i64 (0), .int .i64 (0), .slice none 0 0]) rfl rfl rfl (i := 2) rfl rfl) rfl rfl ?_
 refine G.stepD (OD.assign rfl rfl) rfl rfl rfl ?_
 refine G.nil (GE.then_ (GC.ret (GE.passR (GE.blockR (GE.passR (GE.passR (GE.blockR (GE.passR ?_))))))))
 refine GE.nilInts 3 ?_
 exact GE.body [0] 4 (resN rfl (RVs.cons (rv_cells ti26 rfl (i := 3) rfl rfl) (RVs.cons (rv_tmp rfl) RVs.nil)) rfl) rfl (⟨(.slice none 0 0), congr (congr (congrArg (fun (a0 : Int) (a1 : Int) (a3 : Bool) => (.tuple #[.agg #[.int .i64 (a0), .int .i64 (a1), (.slice none 0 0)], .bool (a3)] : Value)) ((by rw [alP, (show alOk hx dx = false from by first | exact alOk_no2 (by assumption) | exact alOk_no1 (aoB_few (by omega)) | exact alOk_no1 (aoB_no (by first | exact aoK_no1 (show matOkB ⟨(hx.getD k hd0).1, (hx.getD k hd0).2.1, (hx.getD k hd0).2.2, dx.getD k []⟩ = false by assumption) | exact aoK_no2 (show ¬ (hx.getD k hd0).2.1 = (hx.getD k hd0).2.2 by omega) | exact aoK_no3 (show ¬ (hx.getD k hd0).2.1 = (hx.getD 0 hd0).2.1 by omega) | exact aoK_no4 (show ¬ (hx.getD k hd0).1 = (hx.getD 0 hd0).1 by omega)) (by omega)))] <;> rfl : (0 : Int) = alP hx dx))) ((by rw [alN, (show alOk hx dx = false from by first | exact alOk_no2 (by assumption) | exact alOk_no1 (aoB_few (by omega)) | exact alOk_no1 (aoB_no (by first | exact aoK_no1 (show matOkB ⟨(hx.getD k hd0).1, (hx.getD k hd0).2.1, (hx.getD k hd0).2.2, dx.getD k []⟩ = false by assumption) | exact aoK_no2 (show ¬ (hx.getD k hd0).2.1 = (hx.getD k hd0).2.2 by omega) | exact aoK_no3 (show ¬ (hx.getD k hd0).2.1 = (hx.getD 0 hd0).2.1 by omega) | exact aoK_no4 (show ¬ (hx.getD k hd0).1 = (hx.getD 0 hd0).1 by omega)) (by omega)))] <;> rfl : (0 : Int) = alN hx dx))) (((show alOk hx dx = false from by first | exact alOk_no2 (by assumption) | exact alOk_no1 (aoB_few (by omega)) | exact alOk_no1 (aoB_no (by first | exact aoK_no1 (show matOkB ⟨(hx.getD k hd0).1, (hx.getD k hd0).2.1, (hx.getD k hd0).2.2, dx.getD k []⟩ = false by assumption) | exact aoK_no2 (show ¬ (hx.getD k hd0).2.1 = (hx.getD k hd0).2.2 by omega) | exact aoK_no3 (show ¬ (hx.getD k hd0).2.1 = (hx.getD 0 hd0).2.1 by omega) | exact aoK_no4 (show ¬ (hx.getD k hd0).1 = (hx.getD 0 hd0).1 by omega)) (by omega))).symm : (false : Bool) = alOk hx dx)), IsS.nil, congrArg (fun (l0 : List Int) => ints 3 (.slice none 0 0) l0 :: own) ((by rw [alD, (show alOk hx dx = false from by first | exact alOk_no2 (by assumption) | exact alOk_no1 (aoB_few (by omega)) | exact alOk_no1 (aoB_no (by first | exact aoK_no1 (show matOkB ⟨(hx.getD k hd0).1, (hx.getD k hd0).2.1, (hx.getD k hd0).2.2, dx.getD k []⟩ = false by assumption) | exact aoK_no2 (show ¬ (hx.getD k hd0).2.1 = (hx.getD k hd0).2.2 by omega) | exact aoK_no3 (show ¬ (hx.getD k hd0).2.1 = (hx.getD 0 hd0).2.1 by omega) | exact aoK_no4 (show ¬ (hx.getD k hd0).1 = (hx.getD 0 hd0).1 by omega)) (by omega)))] <;> rfl : [] = alD hx dx))⟩)
 replace hc11 := eq_of_bne_false hc11
 refine GC.skip (GE.then_ (GC.region ?_))
 refine G.stepD (OD.move rfl rfl) rfl rfl rfl ?_
 refine G.stepD (OD.fieldAddr rfl rfl fa41_3) rfl rfl rfl ?_
 refine G.stepD (OD.load rfl ti24 rfl (i := 0) rfl rfl) rfl rfl rfl ?_
 refine G.step (OG.buildLst (xs := [.tmp 54]) (us := [(ux.getD (k) undef)]) rfl et39 rfl rfl rfl (allC (IsS.one (ax.get (by omega))) rfl) rfl) rfl rfl rfl ?_
 rintro v12 _ ⟨hs13, rfl⟩
 refine G.step (OG.appendLst 2 rfl rfl et39 rfl rfl rfl (Ent.lst (i := 0) rfl) (List.all_eq_true.2 fun u hu => by simpa using (AllS.snoc AllS.nil (ax.get (by omega))).one u hu) (by simp [maxLen] <;> omega)) rfl rfl rfl ?_
 rintro v14 _ ⟨hs15, rfl⟩
 refine G.stepD (OD.assign rfl rfl) rfl rfl rfl ?_
 refine G.nil (GE.blockN (GE.then_ (GC.region ?_)))
 refine G.stepD (OD.addI rfl rfl rfl (by omega)) rfl rfl rfl ?_
 refine G.stepD (OD.move rfl rfl) rfl rfl rfl ?_
 refine G.nil ?_
 refine GE.ownEq (own' := lst 24 v12 [(ux.getD (k) undef)] :: box g7 41 [.int .i64 ((hx.getD (k) hd0).1), .int .i64 ((hx.getD (k) hd0).2.1), .int .i64 ((hx.getD (k) hd0).2.2), (ux.getD (k) undef)] :: lst 24 v14 (ux.take (k + 1)) :: box g2 26 [.int .i64 (0), .int .i64 (0), .slice none 0 0] :: box g1 29 [vx] :: own) (by (try dsimp only); rw [us_take (by omega)] <;> rfl) ?_
 exact GE.again (k + 1, v14) (⟨by omega, hs15, ao_next hall (aoK_yes (show matOkB ⟨(hx.getD k hd0).1, (hx.getD k hd0).2.1, (hx.getD k hd0).2.2, dx.getD k []⟩ = true by assumption) (show (hx.getD k hd0).2.1 = (hx.getD k hd0).2.2 by omega) (show (hx.getD k hd0).2.1 = (hx.getD 0 hd0).2.1 by omega) (show (hx.getD k hd0).1 = (hx.getD 0 hd0).1 by omega))⟩) (by first | omega | (dsimp only; omega)) ⟨rfl, rfl, rfl, rfl, rfl, rfl, trivial⟩ [2, 2, 2] 2 rfl
 replace hc6 := of_decide_eq_false hc6
 refine GC.exit (GE.pass (GE.pass (GE.hit (GE.then_ (GC.seq ?_)))))
 have hao : aoB hx dx = true := aoB_yes (by omega) (fun q hq => hall q (by omega))
 have hI := aoB_I hao
 have hn1 := hI.n1
 have hm16 := hI.m16
 have hRw : RwI (hx.getD 0 hd0).1 dx.length (dx.getD 0 []).length dx := by rw [kx]; exact hI.rows kx
 have hnC : ((dx.length * (dx.getD 0 []).length : Nat) : Int) ≤ 4000000 := by have := Nat.mul_le_mul (show dx.length ≤ 28 by omega) hm16; omega
 have hp2 := primeB_range hI.hp
 refine GC.ownEq (own' := lst 24 v ux :: box g2 26 [.int .i64 (0), .int .i64 (0), .slice none 0 0] :: box g1 29 [vx] :: own) (by dsimp only; rw [List.take_of_length_le (show ux.length ≤ k by omega)]) ?_
 refine GC.region ?_
 refine G.stepD (OD.load rfl ti29 rfl (i := 2) rfl rfl) rfl rfl rfl ?_
 refine G.stepD (OD.indexAddr rfl et29 rfl (Ent.drop 3 ex) rfl (by omega)) rfl rfl rfl ?_
 refine G.stepD (OD.fieldAddrE rfl rfl (Ent.drop 3 ex) (by omega) fa41_0) rfl rfl rfl ?_
 refine G.stepD (OD.loadField rfl ti3 rfl (Ent.drop 3 ex) (by omega) (by decide) (hdR_f0 (by omega))) rfl rfl rfl ?_
 refine G.stepD (OD.assign rfl rfl) rfl rfl rfl ?_
 refine G.nil (GE.then_ (GC.seq (GC.region ?_)))
 refine G.stepD (OD.move rfl rfl) rfl rfl rfl ?_
 refine G.stepD (OD.move rfl rfl) rfl rfl rfl ?_
 refine G.stepD (OD.indexAddr rfl et39 rfl (Ent.lst (i := 0) rfl) rfl (by omega)) rfl rfl rfl ?_
 refine G.stepD (OD.loadElem rfl ti24 rfl (Ent.lst (i := 0) rfl) (by omega) rfl) rfl rfl rfl ?_
 refine G.stepD (OD.len rfl rfl et24 rfl (Ent.drop 3 (mx (0) (by omega)))) rfl rfl rfl ?_
 refine G.stepD (OD.move rfl rfl) rfl rfl rfl ?_
 refine G.step (OG.call [v, .int .i64 (((dx.getD (0) []).length : Nat)), .int .i64 ((hx.getD (0) hd0).1)] ent22 rfl rfl rfl rfl (by exact (newBasis_w hv (Ent.len (Ent.lst (i := 0) rfl) (by omega)) (fun k hk => by exact (Ent.drop 3 (mx k (by omega)))) (by omega) ax (m := (dx.getD 0 []).length) (hI.hp) (hRw) (rfl) (⟨by omega, hm16⟩)))) rfl rfl rfl ?_
 rintro _ _ ⟨v16, u17, v21, rfl, hs18, hs19, hs20, hs22, rfl⟩
 refine G.step (OG.alloc rfl ti50 (zs := [.bool false, .int .i64 (0), .int .i64 (0), .int .i64 (0), .slice none 0 0, .slice none 0 0]) rfl) rfl rfl rfl ?_
 rintro _ _ ⟨g23, rfl, rfl⟩
 refine G.stepD0 (OD.store rfl ti50 rfl rfl (us := [.bool (frB ((hx.getD (0) hd0).1) ((dx.getD 0 []).length) dx), .int .i64 ((hx.getD (0) hd0).1), .int .i64 (((dx.getD (0) []).length : Nat)), .int .i64 ((dx.length : Nat)), v16, v21]) rfl rfl (allC rfl (allC rfl (allC rfl (allC rfl (allC (IsS.one hs18) (allC (IsS.one hs22) rfl)))))) (i := 0) rfl rfl) rfl rfl ?_
 refine G.nil (GE.then_ (GC.seq (GC.region ?_)))
 refine G.stepD (OD.fieldAddr rfl rfl fa50_0) rfl rfl rfl ?_
 refine G.stepD (OD.load rfl ti4 rfl (i := 0) rfl rfl) rfl rfl rfl ?_
 refine G.step (OG.alloc rfl ti4 (zs := [.bool false]) rfl) rfl rfl rfl ?_
 rintro _ _ ⟨g24, rfl, rfl⟩
 refine G.stepD0 (OD.store rfl ti4 rfl rfl (us := [.bool (frB ((hx.getD (0) hd0).1) ((dx.getD 0 []).length) dx)]) rfl rfl rfl (i := 0) rfl rfl) rfl rfl ?_
 refine G.nil (GE.then_ (GC.seq (GC.region ?_)))
 refine G.stepD (OD.move rfl rfl) rfl rfl rfl ?_
 refine G.stepD (OD.load rfl ti29 rfl (i := 7) rfl rfl) rfl rfl rfl ?_
 refine G.stepD (OD.len rfl rfl et29 rfl (Ent.drop 8 ex)) rfl rfl rfl ?_
 refine G.stepD (OD.makeFunc (first := []) (captured := [.tmp 1, .tmp 8, .tmp 9]) (us := []) (vs := [.pointer (some ⟨g1, 0, none⟩), .pointer (some ⟨g23, 0, none⟩), .pointer (some ⟨g24, 0, none⟩)]) rfl rfl rfl) rfl rfl rfl ?_
 refine G.at [7, 1, 0] 0 (env' := [(1, .pointer (some ⟨g1, 0, none⟩)), (2, .pointer (some ⟨g2, 0, none⟩)), (17, vx), (18, .int .i64 ((hx.length : Nat))), (4, v), (19, .int .i64 ((k : Int))), (20, .bool (decide ((k : Int) < (hx.length : Nat)))), (58, vx), (59, elemPtr vx 4 (0)), (60, elemPtrF vx 4 (0) 0), (61, .int .i64 ((hx.getD (0) hd0).1)), (7, .int .i64 ((hx.getD (0) hd0).1)), (62, v), (63, v), (64, elemPtr v 1 (0)), (65, (ux.getD (0) undef)), (66, .int .i64 (((dx.getD (0) []).length : Nat))), (67, .int .i64 ((hx.getD (0) hd0).1)), (68, .agg #[.bool (frB ((hx.getD (0) hd0).1) ((dx.getD 0 []).length) dx), .int .i64 ((hx.getD (0) hd0).1), .int .i64 (((dx.getD (0) []).length : Nat)), .int .i64 ((dx.length : Nat)), v16, v21]), (8, .pointer (some ⟨g23, 0, none⟩)), (69, .pointer (some ⟨g23, 0, none⟩)), (70, .bool (frB ((hx.getD (0) hd0).1) ((dx.getD 0 []).length) dx)), (9, .pointer (some ⟨g24, 0, none⟩)), (71, .int .i64 ((hx.getD (0) hd0).1)), (72, vx), (73, .int .i64 ((hx.length : Nat))), (74, .func (.func 24) #[] #[.pointer (some ⟨g1, 0, none⟩), .pointer (some ⟨g23, 0, none⟩), .pointer (some ⟨g24, 0, none⟩)])]) ⟨rfl, rfl, rfl, rfl, rfl, rfl, rfl, rfl, rfl, rfl, rfl, rfl, rfl, rfl, rfl, rfl, rfl, rfl, rfl, rfl, rfl, rfl, rfl, rfl, rfl, rfl, rfl, trivial⟩ (own' := box g1 29 [vx] :: box g23 50 [.bool (frB ((hx.getD (0) hd0).1) ((dx.getD 0 []).length) dx), .int .i64 ((hx.getD (0) hd0).1), .int .i64 (((dx.getD (0) []).length : Nat)), .int .i64 ((dx.length : Nat)), v16, v21] :: box g24 4 [.bool (frB ((hx.getD (0) hd0).1) ((dx.getD 0 []).length) dx)] :: lst 24 v16 u17 :: many (ints 3) u17 ((redE ((hx.getD (0) hd0).1) ((dx.getD 0 []).length) dx).1) :: ints 3 v21 ((red0 ((hx.getD (0) hd0).1) ((dx.getD 0 []).length) dx).2) :: lst 24 v ux :: box g2 26 [.int .i64 (0), .int .i64 (0), .slice none 0 0] :: own) rfl ?_
 refine G.step (OG.call [.int .i64 ((hx.getD (0) hd0).1), .int .i64 ((hx.length : Nat)), .func (.func 24) #[] #[.pointer (some ⟨g1, 0, none⟩), .pointer (some ⟨g23, 0, none⟩), .pointer (some ⟨g24, 0, none⟩)]] ent23 rfl rfl rfl rfl (by exact (tableA_w sx (Ent.drop 5 ex) (fun k hk => (Ent.drop 5 (mx k hk))) lx kx ax hs18 (Ent.len (Ent.lst (i := 0) rfl) (by omega)) (fun k hk => Ent.manyInts (i := 1) (k := k) rfl ⟨by omega, hk⟩) (by omega) hs19 hs22 (Ent.ints (i := 2) rfl) (m := (dx.getD 0 []).length) (hI.hp) (rfl) (rfl) (hI) (rfl) (rfl)))) rfl rfl rfl ?_
 rintro _ _ ⟨v25, u26, rfl, hs27, hs28, rfl⟩
 refine G.step (OG.alloc rfl ti26 (zs := [.int .i64 (0), .int .i64 (0), .slice none 0 0]) rfl) rfl rfl rfl ?_
 rintro _ _ ⟨g29, rfl, rfl⟩
 refine G.stepD0 (OD.store rfl ti26 rfl rfl (us := [.int .i64 ((hx.getD (0) hd0).1), .int .i64 ((hx.length : Nat)), v25]) rfl rfl (allC rfl (allC rfl (allC (IsS.one hs27) rfl))) (i := 0) rfl rfl) rfl rfl ?_
 refine G.nil (GE.then_ (GC.seq (GC.seq ?_)))
 have hAF := al_first hI kx (d := u26) (by assumption)
 have hAl : alOk hx dx = (frB (hx.getD 0 hd0).1 (dx.getD 0 []).length dx && tfS (hx.getD 0 hd0).1 (dx.getD 0 []).length hx dx hx.length 0) := by rw [hAF.1, alOk, hao, Bool.true_and]
 refine GC.region ?_
 refine G.stepD (OD.load rfl ti4 rfl (i := 4) rfl rfl) rfl rfl rfl ?_
 refine G.stepD (OD.not rfl rfl) rfl rfl rfl ?_
 refine G.nil (GE.then_ ?_)
 refine GC.cond rfl (fun hc30 => ?_) (fun hc30 => ?_)
 replace hc30 := eq_false_of_not hc30
 have hok : alOk hx dx = false := hAl.trans hc30
 refine GC.seq (GC.region ?_)
 refine G.stepD (OD.build (idx := []) (xs := []) (vs := []) (cs := []) (zs := [.int .i64 (0), .int .i64 (0), .slice none 0 0]) (r := [.int .i64 (0), .int .i64 (0), .slice none 0 0]) rfl ti26 rfl rfl rfl trivial rfl) rfl rfl rfl ?_
 refine G.stepD0 (OD.store rfl ti26 rfl rfl (us := [.int .i64 (0), .int .i64 (0), .slice none 0 0]) rfl rfl rfl (i := 9) rfl rfl) rfl rfl ?_
 refine G.stepD (OD.assign rfl rfl) rfl rfl rfl ?_
 refine G.nil (GE.then_ (GC.ret (GE.passR ?_)))
 refine GE.nilInts 3 ?_
 exact GE.body [0] 10 (resN rfl (RVs.cons (rv_cells ti26 rfl (i := 10) rfl rfl) (RVs.cons (rv_tmp rfl) RVs.nil)) rfl) rfl (⟨(.slice none 0 0), congr (congr (congrArg (fun (a0 : Int) (a1 : Int) (a3 : Bool) => (.tuple #[.agg #[.int .i64 (a0), .int .i64 (a1), (.slice none 0 0)], .bool (a3)] : Value)) ((by rw [alP, hok] <;> rfl : (0 : Int) = alP hx dx))) ((by rw [alN, hok] <;> rfl : (0 : Int) = alN hx dx))) ((hok.symm : (false : Bool) = alOk hx dx)), IsS.nil, congrArg (fun (l0 : List Int) => ints 3 (.slice none 0 0) l0 :: own) ((by rw [alD, hok] <;> rfl : [] = alD hx dx))⟩)
 replace hc30 := eq_true_of_not hc30
 have hok : alOk hx dx = true := hAl.trans hc30
 refine GC.skip (GE.then_ (GC.seq (GC.region ?_)))
 refine G.stepD (OD.loadAgg rfl ti26 rfl (i := 0) rfl (us := [.int .i64 ((hx.getD (0) hd0).1), .int .i64 ((hx.length : Nat)), v25]) rfl rfl) rfl rfl rfl ?_
 refine G.stepD0 (OD.store rfl ti26 rfl rfl (us := [.int .i64 ((hx.getD (0) hd0).1), .int .i64 ((hx.length : Nat)), v25]) rfl rfl (allC rfl (allC rfl (allC (IsS.one hs27) rfl))) (i := 9) rfl rfl) rfl rfl ?_
 refine G.stepD (OD.assign rfl rfl) rfl rfl rfl ?_
 refine G.nil (GE.then_ (GC.ret ?_))
 exact GE.body [1] 9 (resN rfl (RVs.cons (rv_cells ti26 rfl (i := 9) rfl rfl) (RVs.cons (rv_tmp rfl) RVs.nil)) rfl) rfl (⟨v25, congr (congr (congrArg (fun (a0 : Int) (a1 : Int) (a3 : Bool) => (.tuple #[.agg #[.int .i64 (a0), .int .i64 (a1), v25], .bool (a3)] : Value)) ((by rw [alP, if_pos hok] : ((hx.getD (0) hd0).1 : Int) = alP hx dx))) ((by rw [alN, if_pos hok] : ((hx.length : Nat) : Int) = alN hx dx))) ((hok.symm : (true : Bool) = alOk hx dx)), hs27, congrArg (fun (l0 : List Int) => ints 3 v25 l0 :: own) ((by rw [alD, if_pos hok]; exact hAF.2 (hAF.1.symm.trans (hAl.symm.trans hok)) : u26 = alD hx dx))⟩)
end Go.Proofs.Ytbmnnbglipkidaa
