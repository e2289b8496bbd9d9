/-
  What is drawn: contracts by walks.
-/
import Derived.Test.YtiapoopcicjldaaWMul
import Derived.Test.YtiapoopcicjldaaCur
import Derived.Test.YtiapoopcicjldaaRnb
namespace Go.Proofs.Ytiapoopcicjldaa
set_option linter.unusedVariables false
set_option linter.unusedSimpArgs false
open Go.RowKit

theorem ti5 : TI Try.prog 5 false 1 (.int .u8 (0)) [] := ⟨fun w => by kernel_rfl, by kernel_rfl, fun h => by cases h⟩
theorem ti32 : TI Try.prog 32 false 1 (.slice none 0 0) [] := ⟨fun w => by kernel_rfl, by kernel_rfl, fun h => by cases h⟩
theorem ti99 : TI Try.prog 99 true 3 (.agg #[.slice none 0 0, .int .i64 (0), .int .i64 (0)]) [(0, 1), (1, 1), (2, 1)] := ⟨fun w => by kernel_rfl, by kernel_rfl, fun _ => ⟨_, Try.underlying99, fun w => by kernel_rfl⟩⟩
theorem et32 : ET Try.prog 32 5 1 1 (.int .u8 (0)) := ⟨Try.underlying32, by kernel_rfl, rfl, by omega⟩
theorem fa99_0 : ∀ (b k : Nat) w, (Instr.fieldAt 99 (.pointer (some ⟨b, k, none⟩)) 0).run Try.prog w = .ok (.pointer (some ⟨b, k + 0, none⟩)) w := fun b k w => by kernel_rfl
theorem fa99_1 : ∀ (b k : Nat) w, (Instr.fieldAt 99 (.pointer (some ⟨b, k, none⟩)) 1).run Try.prog w = .ok (.pointer (some ⟨b, k + 1, none⟩)) w := fun b k w => by kernel_rfl
theorem fa99_2 : ∀ (b k : Nat) w, (Instr.fieldAt 99 (.pointer (some ⟨b, k, none⟩)) 2).run Try.prog w = .ok (.pointer (some ⟨b, k + 2, none⟩)) w := fun b k w => by kernel_rfl
theorem ent50 : ∀ us w, (callFunc 50 us).run Try.prog w = .ok (.enter 50 us) w := fun us w => by kernel_rfl
theorem ent51 : ∀ us w, (callFunc 51 us).run Try.prog w = .ok (.enter 51 us) w := fun us w => by kernel_rfl
theorem ent52 : ∀ us w, (callFunc 52 us).run Try.prog w = .ok (.enter 52 us) w := fun us w => by kernel_rfl
theorem ent53 : ∀ us w, (callFunc 53 us).run Try.prog w = .ok (.enter 53 us) w := fun us w => by kernel_rfl
theorem ent83 : ∀ us w, (callFunc 83 us).run Try.prog w = .ok (.enter 83 us) w := fun us w => by kernel_rfl
theorem ent84 : ∀ us w, (callFunc 84 us).run Try.prog w = .ok (.enter 84 us) w := fun us w => by kernel_rfl
theorem ent85 : ∀ us w, (callFunc 85 us).run Try.prog w = .ok (.enter 85 us) w := fun us w => by kernel_rfl
theorem ent103 : ∀ us w, (callFunc 103 us).run Try.prog w = .ok (.enter 103 us) w := fun us w => by kernel_rfl
theorem cv5_3 : ∀ i w, (convert 5 3 (.int .u8 i)).run Try.prog w = .ok (.int .i64 (IntKind.i64.wrap i)) w := fun i w => by kernel_rfl

set_option maxRecDepth 100000 in
theorem l1Byte_w {W : World} {own : List Asn} {gc : Nat} {vb : Value} {bs : List Int} {ci ch : Int}  (sb : IsS vb) (eb : Ent own fun w => Byts w vb bs)  (hci : 0 ≤ ci) (hbl : bs.length ≤ 1048576) : Spec Try.prog 84 [.pointer (some ⟨gc, 0, none⟩)] W (box gc 99 [vb, .int .i64 (ci), .int .i64 (ch)] :: own) (fun v ow => ∃ (x0 : Int) (i0 : Int) (h0 : Int), v = .int .i64 x0 ∧ (0 ≤ x0 ∧ x0 ≤ 255) ∧ (0 ≤ i0) ∧ ow = box gc 99 [vb, .int .i64 (i0), .int .i64 (h0)] :: own) := by
 refine Spec.enter Try.f84 _ Try.func84 rfl (n := 58) rfl rfl ?_
 refine GC.seq (GC.region ?_)
 refine G.stepD (OD.assign rfl rfl) rfl rfl rfl ?_
 refine G.nil (GE.then_ (GC.seq (GC.region ?_)))
 refine G.stepD (OD.move rfl rfl) rfl rfl rfl ?_
 refine G.stepD (OD.move rfl rfl) rfl rfl rfl ?_
 refine G.stepD (OD.nilCheck rfl rfl) rfl rfl rfl ?_
 refine G.stepD (OD.fieldAddr rfl rfl fa99_2) rfl rfl rfl ?_
 refine G.stepD (OD.load rfl ti3 rfl (i := 0) rfl rfl) rfl rfl rfl ?_
 refine G.stepD (OD.mul rfl rfl rfl) rfl rfl rfl ?_
 refine G.stepD (OD.add rfl rfl rfl) rfl rfl rfl ?_
 refine G.stepD (OD.nilCheck rfl rfl) rfl rfl rfl ?_
 refine G.stepD (OD.fieldAddr rfl rfl fa99_2) rfl rfl rfl ?_
 refine G.stepD0 (OD.store rfl ti3 rfl rfl (us := [.int .i64 (IntKind.i64.wrap ((IntKind.i64.wrap (ch * 6364136223846793005)) + 1442695040888963407))]) rfl rfl rfl (i := 0) rfl rfl) rfl rfl ?_
 refine G.nil (GE.then_ (GC.seq ?_))
 refine GC.at [] 0 (env' := [(0, .pointer (some ⟨gc, 0, none⟩))]) ⟨rfl, trivial⟩ rfl ?_
 refine GC.par (its := [⟨13, [], [], [], [], fun _ => .pointer (some ⟨gc, 0, none⟩), fun _ => True, fun _ => []⟩,
     ⟨14, [(0, 13)], [], [], [], fun _ => .pointer (some ⟨gc, 0, none⟩), fun _ => True, fun _ => []⟩,
     ⟨15, [(1, 14)], [], [], [], fun _ => .pointer (some ⟨gc, 2, none⟩), fun _ => True, fun _ => []⟩,
     ⟨16, [(2, 15)], [], [], [], fun _ => .int .i64 (IntKind.i64.wrap ((IntKind.i64.wrap (ch * 6364136223846793005)) + 1442695040888963407)), fun _ => True, fun _ => []⟩,
     ⟨17, [(3, 16)], [], [], [], fun _ => .int .i64 (shrI (IntKind.i64.wrap ((IntKind.i64.wrap (ch * 6364136223846793005)) + 1442695040888963407)) 33), fun _ => True, fun _ => []⟩,
     ⟨18, [], [], [], [], fun _ => .pointer (some ⟨gc, 0, none⟩), fun _ => True, fun _ => []⟩,
     ⟨19, [(5, 18)], [], [], [], fun _ => .pointer (some ⟨gc, 0, none⟩), fun _ => True, fun _ => []⟩,
     ⟨20, [(6, 19)], [], [], [], fun _ => .pointer (some ⟨gc, 2, none⟩), fun _ => True, fun _ => []⟩,
     ⟨21, [(7, 20)], [], [], [], fun _ => .int .i64 (IntKind.i64.wrap ((IntKind.i64.wrap (ch * 6364136223846793005)) + 1442695040888963407)), fun _ => True, fun _ => []⟩,
     ⟨22, [(8, 21)], [], [], [], fun _ => .int .i64 (shrI (IntKind.i64.wrap ((IntKind.i64.wrap (ch * 6364136223846793005)) + 1442695040888963407)) 45), fun _ => True, fun _ => []⟩,
     ⟨23, [(4, 17), (9, 22)], [], [], [], fun _ => .int .i64 (xorI (shrI (IntKind.i64.wrap ((IntKind.i64.wrap (ch * 6364136223846793005)) + 1442695040888963407)) 33) (shrI (IntKind.i64.wrap ((IntKind.i64.wrap (ch * 6364136223846793005)) + 1442695040888963407)) 45)), fun _ => True, fun _ => []⟩,
     ⟨24, [(10, 23)], [], [], [], fun _ => .int .i64 (andI (xorI (shrI (IntKind.i64.wrap ((IntKind.i64.wrap (ch * 6364136223846793005)) + 1442695040888963407)) 33) (shrI (IntKind.i64.wrap ((IntKind.i64.wrap (ch * 6364136223846793005)) + 1442695040888963407)) 45)) 255), fun _ => True, fun _ => []⟩]) (by kernel_rfl) (by kernel_rfl) (POps.cons ?_ (POps.cons ?_ (POps.cons ?_ (POps.cons ?_ (POps.cons ?_ (POps.cons ?_ (POps.cons ?_ (POps.cons ?_ (POps.cons ?_ (POps.cons ?_ (POps.cons ?_ (POps.cons ?_ POps.nil)))))))))))) ?_
 intro θ R hd
 exact Opp.plain (OG.imp (OD.move rfl rfl) (by rintro _ _ ⟨rfl, rfl⟩; exact ⟨[], rfl, trivial, rfl⟩)) rfl
 intro θ R hd
 obtain ⟨h0d, _⟩ := hd
 exact Opp.plain (OG.imp (OD.nilCheck rfl rfl) (by rintro _ _ ⟨rfl, rfl⟩; exact ⟨[], rfl, trivial, rfl⟩)) rfl
 intro θ R hd
 obtain ⟨h1d, _⟩ := hd
 exact Opp.plain (OG.imp (OD.fieldAddr rfl rfl fa99_2) (by rintro _ _ ⟨rfl, rfl⟩; exact ⟨[], rfl, trivial, rfl⟩)) rfl
 intro θ R hd
 obtain ⟨h2d, _⟩ := hd
 exact Opp.plain (OG.imp (OD.load rfl ti3 rfl (i := 0) rfl rfl) (by rintro _ _ ⟨rfl, rfl⟩; exact ⟨[], rfl, trivial, rfl⟩)) rfl
 intro θ R hd
 obtain ⟨h3d, _⟩ := hd
 exact Opp.plain (OG.imp (OD.shr rfl rfl rfl (by decide)) (by rintro _ _ ⟨rfl, rfl⟩; exact ⟨[], rfl, trivial, rfl⟩)) rfl
 intro θ R hd
 exact Opp.plain (OG.imp (OD.move rfl rfl) (by rintro _ _ ⟨rfl, rfl⟩; exact ⟨[], rfl, trivial, rfl⟩)) rfl
 intro θ R hd
 obtain ⟨h5d, _⟩ := hd
 exact Opp.plain (OG.imp (OD.nilCheck rfl rfl) (by rintro _ _ ⟨rfl, rfl⟩; exact ⟨[], rfl, trivial, rfl⟩)) rfl
 intro θ R hd
 obtain ⟨h6d, _⟩ := hd
 exact Opp.plain (OG.imp (OD.fieldAddr rfl rfl fa99_2) (by rintro _ _ ⟨rfl, rfl⟩; exact ⟨[], rfl, trivial, rfl⟩)) rfl
 intro θ R hd
 obtain ⟨h7d, _⟩ := hd
 exact Opp.plain (OG.imp (OD.load rfl ti3 rfl (i := 0) rfl rfl) (by rintro _ _ ⟨rfl, rfl⟩; exact ⟨[], rfl, trivial, rfl⟩)) rfl
 intro θ R hd
 obtain ⟨h8d, _⟩ := hd
 exact Opp.plain (OG.imp (OD.shr rfl rfl rfl (by decide)) (by rintro _ _ ⟨rfl, rfl⟩; exact ⟨[], rfl, trivial, rfl⟩)) rfl
 intro θ R hd
 obtain ⟨h4d, h9d, _⟩ := hd
 exact Opp.plain (OG.imp (OD.xorB rfl rfl rfl) (by rintro _ _ ⟨rfl, rfl⟩; exact ⟨[], rfl, trivial, rfl⟩)) rfl
 intro θ R hd
 obtain ⟨h10d, _⟩ := hd
 exact Opp.plain (OG.imp (OD.andB rfl rfl rfl) (by rintro _ _ ⟨rfl, rfl⟩; exact ⟨[], rfl, trivial, rfl⟩)) rfl
 intro θ hall
 obtain ⟨_, _, _, _, _, _, _, _, _, _, _, _, _⟩ := hall
 refine G.at [] 0 (env' := [(0, .pointer (some ⟨gc, 0, none⟩)), (24, .int .i64 (andI (xorI (shrI (IntKind.i64.wrap ((IntKind.i64.wrap (ch * 6364136223846793005)) + 1442695040888963407)) 33) (shrI (IntKind.i64.wrap ((IntKind.i64.wrap (ch * 6364136223846793005)) + 1442695040888963407)) 45)) 255))]) ⟨rfl, rfl, trivial⟩ (own' := box gc 99 [vb, .int .i64 (ci), .int .i64 (IntKind.i64.wrap ((IntKind.i64.wrap (ch * 6364136223846793005)) + 1442695040888963407))] :: own) rfl ?_
 show G _ _ _ [_] _ _ _ _
 refine G.stepD (OD.assign rfl rfl) rfl rfl rfl ?_
 refine G.nil (GE.then_ (GC.seq (GC.seq ?_)))
 refine GC.at [] 0 (env' := [(0, .pointer (some ⟨gc, 0, none⟩)), (3, .int .i64 (andI (xorI (shrI (IntKind.i64.wrap ((IntKind.i64.wrap (ch * 6364136223846793005)) + 1442695040888963407)) 33) (shrI (IntKind.i64.wrap ((IntKind.i64.wrap (ch * 6364136223846793005)) + 1442695040888963407)) 45)) 255))]) ⟨rfl, rfl, trivial⟩ rfl ?_
 refine GC.par (its := [⟨25, [], [], [], [], fun _ => .pointer (some ⟨gc, 0, none⟩), fun _ => True, fun _ => []⟩,
     ⟨26, [(0, 25)], [], [], [], fun _ => .pointer (some ⟨gc, 0, none⟩), fun _ => True, fun _ => []⟩,
     ⟨27, [(1, 26)], [], [], [], fun _ => .pointer (some ⟨gc, 1, none⟩), fun _ => True, fun _ => []⟩,
     ⟨28, [(2, 27)], [], [], [], fun _ => .int .i64 (ci), fun _ => True, fun _ => []⟩,
     ⟨29, [], [], [], [], fun _ => .pointer (some ⟨gc, 0, none⟩), fun _ => True, fun _ => []⟩,
     ⟨30, [(4, 29)], [], [], [], fun _ => .pointer (some ⟨gc, 0, none⟩), fun _ => True, fun _ => []⟩,
     ⟨31, [(5, 30)], [], [], [], fun _ => .pointer (some ⟨gc, 0, none⟩), fun _ => True, fun _ => []⟩,
     ⟨32, [(6, 31)], [], [], [], fun _ => vb, fun _ => True, fun _ => []⟩,
     ⟨33, [(7, 32)], [], [], [], fun _ => .int .i64 ((bs.length : Nat)), fun _ => True, fun _ => []⟩,
     ⟨34, [(3, 28), (8, 33)], [], [], [], fun _ => .bool (decide (ci < (bs.length : Nat))), fun _ => True, fun _ => []⟩]) (by kernel_rfl) (by kernel_rfl) (POps.cons ?_ (POps.cons ?_ (POps.cons ?_ (POps.cons ?_ (POps.cons ?_ (POps.cons ?_ (POps.cons ?_ (POps.cons ?_ (POps.cons ?_ (POps.cons ?_ POps.nil)))))))))) ?_
 intro θ R hd
 exact Opp.plain (OG.imp (OD.move rfl rfl) (by rintro _ _ ⟨rfl, rfl⟩; exact ⟨[], rfl, trivial, rfl⟩)) rfl
 intro θ R hd
 obtain ⟨h0d, _⟩ := hd
 exact Opp.plain (OG.imp (OD.nilCheck rfl rfl) (by rintro _ _ ⟨rfl, rfl⟩; exact ⟨[], rfl, trivial, rfl⟩)) rfl
 intro θ R hd
 obtain ⟨h1d, _⟩ := hd
 exact Opp.plain (OG.imp (OD.fieldAddr rfl rfl fa99_1) (by rintro _ _ ⟨rfl, rfl⟩; exact ⟨[], rfl, trivial, rfl⟩)) rfl
 intro θ R hd
 obtain ⟨h2d, _⟩ := hd
 exact Opp.plain (OG.imp (OD.load rfl ti3 rfl (i := 0) rfl rfl) (by rintro _ _ ⟨rfl, rfl⟩; exact ⟨[], rfl, trivial, rfl⟩)) rfl
 intro θ R hd
 exact Opp.plain (OG.imp (OD.move rfl rfl) (by rintro _ _ ⟨rfl, rfl⟩; exact ⟨[], rfl, trivial, rfl⟩)) rfl
 intro θ R hd
 obtain ⟨h4d, _⟩ := hd
 exact Opp.plain (OG.imp (OD.nilCheck rfl rfl) (by rintro _ _ ⟨rfl, rfl⟩; exact ⟨[], rfl, trivial, rfl⟩)) rfl
 intro θ R hd
 obtain ⟨h5d, _⟩ := hd
 exact Opp.plain (OG.imp (OD.fieldAddr rfl rfl fa99_0) (by rintro _ _ ⟨rfl, rfl⟩; exact ⟨[], rfl, trivial, rfl⟩)) rfl
 intro θ R hd
 obtain ⟨h6d, _⟩ := hd
 exact Opp.plain (OG.imp (OD.load rfl ti32 rfl (i := 0) rfl rfl) (by rintro _ _ ⟨rfl, rfl⟩; exact ⟨[], rfl, trivial, rfl⟩)) rfl
 intro θ R hd
 obtain ⟨h7d, _⟩ := hd
 exact Opp.plain (OG.imp (OD.len rfl rfl et32 rfl (Ent.drop 1 eb.app)) (by rintro _ _ ⟨rfl, rfl⟩; exact ⟨[], rfl, trivial, rfl⟩)) rfl
 intro θ R hd
 obtain ⟨h3d, h8d, _⟩ := hd
 exact Opp.plain (OG.imp (OD.lss rfl rfl rfl) (by rintro _ _ ⟨rfl, rfl⟩; exact ⟨[], rfl, trivial, rfl⟩)) rfl
 intro θ hall
 obtain ⟨_, _, _, _, _, _, _, _, _, _, _⟩ := hall
 refine G.at [] 0 (env' := [(0, .pointer (some ⟨gc, 0, none⟩)), (3, .int .i64 (andI (xorI (shrI (IntKind.i64.wrap ((IntKind.i64.wrap (ch * 6364136223846793005)) + 1442695040888963407)) 33) (shrI (IntKind.i64.wrap ((IntKind.i64.wrap (ch * 6364136223846793005)) + 1442695040888963407)) 45)) 255)), (34, .bool (decide (ci < (bs.length : Nat))))]) ⟨rfl, rfl, rfl, trivial⟩ (own' := box gc 99 [vb, .int .i64 (ci), .int .i64 (IntKind.i64.wrap ((IntKind.i64.wrap (ch * 6364136223846793005)) + 1442695040888963407))] :: own) rfl ?_
 show G _ _ _ [] _ _ _ _
 refine G.nil (GE.then_ ?_)
 refine GC.cond rfl (fun hc1 => ?_) (fun hc1 => ?_)
 replace hc1 := of_decide_eq_true hc1
 refine GC.seq ?_
 refine GC.at [] 0 (env' := [(0, .pointer (some ⟨gc, 0, none⟩)), (3, .int .i64 (andI (xorI (shrI (IntKind.i64.wrap ((IntKind.i64.wrap (ch * 6364136223846793005)) + 1442695040888963407)) 33) (shrI (IntKind.i64.wrap ((IntKind.i64.wrap (ch * 6364136223846793005)) + 1442695040888963407)) 45)) 255))]) ⟨rfl, rfl, trivial⟩ rfl ?_
 refine GC.par (its := [⟨35, [], [], [], [], fun _ => .int .i64 (andI (xorI (shrI (IntKind.i64.wrap ((IntKind.i64.wrap (ch * 6364136223846793005)) + 1442695040888963407)) 33) (shrI (IntKind.i64.wrap ((IntKind.i64.wrap (ch * 6364136223846793005)) + 1442695040888963407)) 45)) 255), fun _ => True, fun _ => []⟩,
     ⟨36, [], [], [], [], fun _ => .pointer (some ⟨gc, 0, none⟩), fun _ => True, fun _ => []⟩,
     ⟨37, [(1, 36)], [], [], [], fun _ => .pointer (some ⟨gc, 0, none⟩), fun _ => True, fun _ => []⟩,
     ⟨38, [(2, 37)], [], [], [], fun _ => .pointer (some ⟨gc, 0, none⟩), fun _ => True, fun _ => []⟩,
     ⟨39, [(3, 38)], [], [], [], fun _ => vb, fun _ => True, fun _ => []⟩,
     ⟨40, [], [], [], [], fun _ => .pointer (some ⟨gc, 0, none⟩), fun _ => True, fun _ => []⟩,
     ⟨41, [(5, 40)], [], [], [], fun _ => .pointer (some ⟨gc, 0, none⟩), fun _ => True, fun _ => []⟩,
     ⟨42, [(6, 41)], [], [], [], fun _ => .pointer (some ⟨gc, 1, none⟩), fun _ => True, fun _ => []⟩,
     ⟨43, [(7, 42)], [], [], [], fun _ => .int .i64 (ci), fun _ => True, fun _ => []⟩,
     ⟨44, [(4, 39), (8, 43)], [], [], [], fun _ => elemPtr vb 1 ((ci : Int).toNat), fun _ => True, fun _ => []⟩,
     ⟨45, [(9, 44)], [], [], [], fun _ => .int .u8 (bs.getD ((ci : Int).toNat) 0), fun _ => True, fun _ => []⟩,
     ⟨46, [(10, 45)], [], [], [], fun _ => .int .i64 (IntKind.i64.wrap (bs.getD ((ci : Int).toNat) 0)), fun _ => True, fun _ => []⟩,
     ⟨47, [(0, 35), (11, 46)], [], [], [], fun _ => .int .i64 (IntKind.i64.wrap ((andI (xorI (shrI (IntKind.i64.wrap ((IntKind.i64.wrap (ch * 6364136223846793005)) + 1442695040888963407)) 33) (shrI (IntKind.i64.wrap ((IntKind.i64.wrap (ch * 6364136223846793005)) + 1442695040888963407)) 45)) 255) + (IntKind.i64.wrap (bs.getD ((ci : Int).toNat) 0)))), fun _ => True, fun _ => []⟩,
     ⟨48, [(12, 47)], [], [], [], fun _ => .int .i64 (andI (IntKind.i64.wrap ((andI (xorI (shrI (IntKind.i64.wrap ((IntKind.i64.wrap (ch * 6364136223846793005)) + 1442695040888963407)) 33) (shrI (IntKind.i64.wrap ((IntKind.i64.wrap (ch * 6364136223846793005)) + 1442695040888963407)) 45)) 255) + (IntKind.i64.wrap (bs.getD ((ci : Int).toNat) 0)))) 255), fun _ => True, fun _ => []⟩]) (by kernel_rfl) (by kernel_rfl) (POps.cons ?_ (POps.cons ?_ (POps.cons ?_ (POps.cons ?_ (POps.cons ?_ (POps.cons ?_ (POps.cons ?_ (POps.cons ?_ (POps.cons ?_ (POps.cons ?_ (POps.cons ?_ (POps.cons ?_ (POps.cons ?_ (POps.cons ?_ POps.nil)))))))))))))) ?_
 intro θ R hd
 exact Opp.plain (OG.imp (OD.move rfl rfl) (by rintro _ _ ⟨rfl, rfl⟩; exact ⟨[], rfl, trivial, rfl⟩)) rfl
 intro θ R hd
 exact Opp.plain (OG.imp (OD.move rfl rfl) (by rintro _ _ ⟨rfl, rfl⟩; exact ⟨[], rfl, trivial, rfl⟩)) rfl
 intro θ R hd
 obtain ⟨h1d, _⟩ := hd
 exact Opp.plain (OG.imp (OD.nilCheck rfl rfl) (by rintro _ _ ⟨rfl, rfl⟩; exact ⟨[], rfl, trivial, rfl⟩)) rfl
 intro θ R hd
 obtain ⟨h2d, _⟩ := hd
 exact Opp.plain (OG.imp (OD.fieldAddr rfl rfl fa99_0) (by rintro _ _ ⟨rfl, rfl⟩; exact ⟨[], rfl, trivial, rfl⟩)) rfl
 intro θ R hd
 obtain ⟨h3d, _⟩ := hd
 exact Opp.plain (OG.imp (OD.load rfl ti32 rfl (i := 0) rfl rfl) (by rintro _ _ ⟨rfl, rfl⟩; exact ⟨[], rfl, trivial, rfl⟩)) rfl
 intro θ R hd
 exact Opp.plain (OG.imp (OD.move rfl rfl) (by rintro _ _ ⟨rfl, rfl⟩; exact ⟨[], rfl, trivial, rfl⟩)) rfl
 intro θ R hd
 obtain ⟨h5d, _⟩ := hd
 exact Opp.plain (OG.imp (OD.nilCheck rfl rfl) (by rintro _ _ ⟨rfl, rfl⟩; exact ⟨[], rfl, trivial, rfl⟩)) rfl
 intro θ R hd
 obtain ⟨h6d, _⟩ := hd
 exact Opp.plain (OG.imp (OD.fieldAddr rfl rfl fa99_1) (by rintro _ _ ⟨rfl, rfl⟩; exact ⟨[], rfl, trivial, rfl⟩)) rfl
 intro θ R hd
 obtain ⟨h7d, _⟩ := hd
 exact Opp.plain (OG.imp (OD.load rfl ti3 rfl (i := 0) rfl rfl) (by rintro _ _ ⟨rfl, rfl⟩; exact ⟨[], rfl, trivial, rfl⟩)) rfl
 intro θ R hd
 obtain ⟨h4d, h8d, _⟩ := hd
 exact Opp.plain (OG.imp (OD.indexAddr rfl et32 rfl (Ent.drop 1 eb.app) rfl (by omega)) (by rintro _ _ ⟨rfl, rfl⟩; exact ⟨[], rfl, trivial, rfl⟩)) rfl
 intro θ R hd
 obtain ⟨h9d, _⟩ := hd
 exact Opp.plain (OG.imp (OD.loadByte rfl ti5 rfl (Ent.drop 1 eb.app) (by omega)) (by rintro _ _ ⟨rfl, rfl⟩; exact ⟨[], rfl, trivial, rfl⟩)) rfl
 intro θ R hd
 obtain ⟨h10d, _⟩ := hd
 exact Opp.plain (OG.imp (OD.conv rfl cv5_3 rfl) (by rintro _ _ ⟨rfl, rfl⟩; exact ⟨[], rfl, trivial, rfl⟩)) rfl
 intro θ R hd
 obtain ⟨h0d, h11d, _⟩ := hd
 exact Opp.plain (OG.imp (OD.add rfl rfl rfl) (by rintro _ _ ⟨rfl, rfl⟩; exact ⟨[], rfl, trivial, rfl⟩)) rfl
 intro θ R hd
 obtain ⟨h12d, _⟩ := hd
 exact Opp.plain (OG.imp (OD.andB rfl rfl rfl) (by rintro _ _ ⟨rfl, rfl⟩; exact ⟨[], rfl, trivial, rfl⟩)) rfl
 intro θ hall
 obtain ⟨_, _, _, _, _, _, _, _, _, _, _, _, _, _, _⟩ := hall
 refine G.at [] 0 (env' := [(0, .pointer (some ⟨gc, 0, none⟩)), (3, .int .i64 (andI (xorI (shrI (IntKind.i64.wrap ((IntKind.i64.wrap (ch * 6364136223846793005)) + 1442695040888963407)) 33) (shrI (IntKind.i64.wrap ((IntKind.i64.wrap (ch * 6364136223846793005)) + 1442695040888963407)) 45)) 255)), (48, .int .i64 (andI (IntKind.i64.wrap ((andI (xorI (shrI (IntKind.i64.wrap ((IntKind.i64.wrap (ch * 6364136223846793005)) + 1442695040888963407)) 33) (shrI (IntKind.i64.wrap ((IntKind.i64.wrap (ch * 6364136223846793005)) + 1442695040888963407)) 45)) 255) + (IntKind.i64.wrap (bs.getD ((ci : Int).toNat) 0)))) 255))]) ⟨rfl, rfl, rfl, trivial⟩ (own' := box gc 99 [vb, .int .i64 (ci), .int .i64 (IntKind.i64.wrap ((IntKind.i64.wrap (ch * 6364136223846793005)) + 1442695040888963407))] :: own) rfl ?_
 show G _ _ _ [_] _ _ _ _
 refine G.stepD (OD.assign rfl rfl) rfl rfl rfl ?_
 refine G.nil (GE.then_ (GC.region ?_))
 refine G.stepD (OD.move rfl rfl) rfl rfl rfl ?_
 refine G.stepD (OD.move rfl rfl) rfl rfl rfl ?_
 refine G.stepD (OD.nilCheck rfl rfl) rfl rfl rfl ?_
 refine G.stepD (OD.fieldAddr rfl rfl fa99_1) rfl rfl rfl ?_
 refine G.stepD (OD.load rfl ti3 rfl (i := 0) rfl rfl) rfl rfl rfl ?_
 refine G.stepD (OD.addI rfl rfl rfl (by omega)) rfl rfl rfl ?_
 refine G.stepD (OD.nilCheck rfl rfl) rfl rfl rfl ?_
 refine G.stepD (OD.fieldAddr rfl rfl fa99_1) rfl rfl rfl ?_
 refine G.stepD0 (OD.store rfl ti3 rfl rfl (us := [.int .i64 (ci + 1)]) rfl rfl rfl (i := 0) rfl rfl) rfl rfl ?_
 refine G.nil (GE.then_ (GC.seq (GC.region ?_)))
 refine G.stepD (OD.move rfl rfl) rfl rfl rfl ?_
 refine G.stepD (OD.assign rfl rfl) rfl rfl rfl ?_
 refine G.nil (GE.then_ (GC.ret ?_))
 exact GE.body [] 0 (res1 rfl rfl) rfl (⟨(andI (IntKind.i64.wrap ((andI (xorI (shrI (IntKind.i64.wrap ((IntKind.i64.wrap (ch * 6364136223846793005)) + 1442695040888963407)) 33) (shrI (IntKind.i64.wrap ((IntKind.i64.wrap (ch * 6364136223846793005)) + 1442695040888963407)) 45)) 255) + (IntKind.i64.wrap (bs.getD ((ci : Int).toNat) 0)))) 255), ci + 1, IntKind.i64.wrap ((IntKind.i64.wrap (ch * 6364136223846793005)) + 1442695040888963407), rfl, (andI_255 _), (by omega), rfl⟩)
 replace hc1 := of_decide_eq_false hc1
 refine GC.skip (GE.then_ (GC.seq (GC.region ?_)))
 refine G.stepD (OD.move rfl rfl) rfl rfl rfl ?_
 refine G.stepD (OD.assign rfl rfl) rfl rfl rfl ?_
 refine G.nil (GE.then_ (GC.ret ?_))
 exact GE.body [] 0 (res1 rfl rfl) rfl (⟨(andI (xorI (shrI (IntKind.i64.wrap ((IntKind.i64.wrap (ch * 6364136223846793005)) + 1442695040888963407)) 33) (shrI (IntKind.i64.wrap ((IntKind.i64.wrap (ch * 6364136223846793005)) + 1442695040888963407)) 45)) 255), ci, IntKind.i64.wrap ((IntKind.i64.wrap (ch * 6364136223846793005)) + 1442695040888963407), rfl, (andI_255 _), (by omega), rfl⟩)

set_option maxRecDepth 100000 in
theorem l1Below_w {W : World} {own : List Asn} {gc : Nat} {vb : Value} {bs : List Int} {ci ch : Int} {n : Int}  (sb : IsS vb) (eb : Ent own fun w => Byts w vb bs)   (hci : 0 ≤ ci) (hbl : bs.length ≤ 1048576) (hn : 1 ≤ n ∧ n ≤ 256) : Spec Try.prog 52 [.pointer (some ⟨gc, 0, none⟩), .int .i64 (n)] W (box gc 99 [vb, .int .i64 (ci), .int .i64 (ch)] :: own) (fun v ow => ∃ (x0 : Int) (i0 : Int) (h0 : Int), v = .int .i64 x0 ∧ (0 ≤ x0 ∧ x0 < n) ∧ (0 ≤ i0) ∧ ow = box gc 99 [vb, .int .i64 (i0), .int .i64 (h0)] :: own) := by
 refine Spec.enter Try.f52 _ Try.func52 rfl (n := 37) rfl rfl ?_
 refine GC.seq (GC.region ?_)
 refine G.stepD (OD.assign rfl rfl) rfl rfl rfl ?_
 refine G.nil (GE.then_ (GC.seq (GC.seq (GC.region ?_))))
 refine G.stepD (OD.move rfl rfl) rfl rfl rfl ?_
 refine G.stepD (OD.leq rfl rfl rfl) rfl rfl rfl ?_
 refine G.nil (GE.then_ ?_)
 refine GC.cond rfl (fun hc1 => ?_) (fun hc1 => ?_)
 replace hc1 := of_decide_eq_true hc1
 exfalso; omega
 replace hc1 := of_decide_eq_false hc1
 refine GC.skip (GE.then_ (GC.seq (GC.seq (GC.region ?_))))
 refine G.stepD (OD.move rfl rfl) rfl rfl rfl ?_
 refine G.stepD (OD.leq rfl rfl rfl) rfl rfl rfl ?_
 refine G.nil (GE.then_ ?_)
 refine GC.cond rfl (fun hc2 => ?_) (fun hc2 => ?_)
 replace hc2 := of_decide_eq_true hc2
 refine GC.seq (GC.region ?_)
 refine G.stepD (OD.move rfl rfl) rfl rfl rfl ?_
 refine G.step (OG.call [.pointer (some ⟨gc, 0, none⟩)] ent84 rfl rfl rfl rfl (by exact (l1Byte_w sb eb (by omega) (by omega)))) rfl rfl rfl ?_
 rintro _ _ ⟨u3, u4, u5, rfl, hs6, hs7, rfl⟩
 refine G.stepD (OD.move rfl rfl) rfl rfl rfl ?_
 refine G.stepD (OD.rem rfl rfl rfl (by omega)) rfl rfl rfl ?_
 refine G.stepD (OD.assign rfl rfl) rfl rfl rfl ?_
 refine G.nil (GE.then_ (GC.ret (GE.passR ?_)))
 exact GE.body [] 0 (res1 rfl rfl) rfl (⟨((u3).tmod n), u4, u5, rfl, (tmod_rng (by omega) (by omega)), (by omega), rfl⟩)
 replace hc2 := of_decide_eq_false hc2
 exfalso; omega

set_option maxRecDepth 100000 in
theorem l1Once_w {W : World} {own : List Asn} {gc : Nat} {vb : Value} {bs : List Int} {ci ch : Int} {n : Int}  (sb : IsS vb) (eb : Ent own fun w => Byts w vb bs)   (hci : 0 ≤ ci) (hbl : bs.length ≤ 1048576) (hn : 1 ≤ n ∧ n ≤ 256) : Spec Try.prog 103 [.pointer (some ⟨gc, 0, none⟩), .int .i64 (n)] W (box gc 99 [vb, .int .i64 (ci), .int .i64 (ch)] :: own) (fun v ow => ∃ (b0 : Bool) (i0 : Int) (h0 : Int), v = .bool b0 ∧ (0 ≤ i0) ∧ ow = box gc 99 [vb, .int .i64 (i0), .int .i64 (h0)] :: own) := by
 refine Spec.enter Try.f103 _ Try.func103 rfl (n := 9) rfl rfl ?_
 refine GC.seq (GC.region ?_)
 refine G.stepD (OD.assign rfl rfl) rfl rfl rfl ?_
 refine G.nil (GE.then_ (GC.seq (GC.region ?_)))
 refine G.stepD (OD.move rfl rfl) rfl rfl rfl ?_
 refine G.stepD (OD.move rfl rfl) rfl rfl rfl ?_
 refine G.step (OG.call [.pointer (some ⟨gc, 0, none⟩), .int .i64 (n)] ent52 rfl rfl rfl rfl (by exact (l1Below_w sb eb (by omega) (by omega) (by omega)))) rfl rfl rfl ?_
 rintro _ _ ⟨u1, u2, u3, rfl, hs4, hs5, rfl⟩
 refine G.stepD (OD.eql rfl rfl rfl) rfl rfl rfl ?_
 refine G.stepD (OD.assign rfl rfl) rfl rfl rfl ?_
 refine G.nil (GE.then_ (GC.ret ?_))
 exact GE.body [] 0 (res1 rfl rfl) rfl (⟨(u1 == 0), u2, u3, rfl, (by omega), rfl⟩)

set_option maxRecDepth 100000 in
theorem l12List_w {W : World} {own : List Asn} {gc : Nat} {vb : Value} {bs : List Int} {ci ch : Int} {n : Int} {m : Int}  (sb : IsS vb) (eb : Ent own fun w => Byts w vb bs)   (hci : 0 ≤ ci) (hbl : bs.length ≤ 1048576) (hnn : 0 ≤ n ∧ n ≤ 1000) (hbe : 1 ≤ m ∧ m ≤ 256) : Spec Try.prog 85 [.pointer (some ⟨gc, 0, none⟩), .int .i64 (n), .int .i64 (m)] W (box gc 99 [vb, .int .i64 (ci), .int .i64 (ch)] :: own) (fun v ow => ∃ (v0 : Value) (xs0 : List Int) (i0 : Int) (h0 : Int), v = v0 ∧ IsS v0 ∧ (xs0.length = (n : Int).toNat) ∧ (∀ y ∈ xs0, 0 ≤ y ∧ y < m) ∧ (0 ≤ i0) ∧ ow = ints 3 v0 xs0 :: box gc 99 [vb, .int .i64 (i0), .int .i64 (h0)] :: own) := by
 refine Spec.enter Try.f85 _ Try.func85 rfl (n := 26) rfl rfl ?_
 refine GC.seq (GC.region ?_)
 refine G.stepD (OD.assign rfl rfl) rfl rfl rfl ?_
 refine G.nil (GE.then_ (GC.seq (GC.region ?_)))
 refine G.step (OG.buildInts (xs := []) (is := []) rfl et23 rfl rfl rfl rfl rfl) rfl rfl rfl ?_
 rintro v1 _ ⟨hs2, rfl⟩
 refine G.stepD (OD.assign rfl rfl) rfl rfl rfl ?_
 refine G.nil (GE.then_ (GC.seq (GC.seq (GC.region ?_))))
 refine G.stepD (OD.assign rfl rfl) rfl rfl rfl ?_
 refine G.nil (GE.then_ (GC.block ?_))
 refine GC.loop (ι := Nat × List Int × Value × Int × Int) (fun ⟨k, ys, v, q, r⟩ => [(0, .pointer (some ⟨gc, 0, none⟩)), (1, .int .i64 (n)), (2, .int .i64 (m)), (7, v), (8, .int .i64 ((k : Int)))]) (fun ⟨k, ys, v, q, r⟩ => ints 3 v ys :: box gc 99 [vb, .int .i64 (q), .int .i64 (r)] :: own) (fun ⟨k, ys, v, q, r⟩ => ((k : Int) ≤ n) ∧ (ys.length = k) ∧ (∀ y ∈ ys, 0 ≤ y ∧ y < m) ∧ (IsS v) ∧ (0 ≤ q)) (fun ⟨k, ys, v, q, r⟩ => n.toNat - k) (0, [], v1, ci, ch) (⟨by omega, rfl, by simp, hs2, by omega⟩) ⟨rfl, rfl, rfl, rfl, rfl, trivial⟩ [] 0 rfl ?_
 rintro ⟨k, ys, v, q, r⟩ ⟨hk, hyl, hyb, hv, hq⟩
 refine GC.seq (GC.seq (GC.region ?_))
 refine G.stepD (OD.move rfl rfl) rfl rfl rfl ?_
 refine G.stepD (OD.move rfl rfl) rfl rfl rfl ?_
 refine G.stepD (OD.lss rfl rfl rfl) rfl rfl rfl ?_
 refine G.nil (GE.then_ ?_)
 refine GC.cond rfl (fun hc3 => ?_) (fun hc3 => ?_)
 replace hc3 := of_decide_eq_true hc3
 refine GC.skip (GE.then_ (GC.seq (GC.block (GC.seq (GC.region ?_)))))
 refine G.stepD (OD.move rfl rfl) rfl rfl rfl ?_
 refine G.stepD (OD.move rfl rfl) rfl rfl rfl ?_
 refine G.at [1] 0 (env' := [(0, .pointer (some ⟨gc, 0, none⟩)), (1, .int .i64 (n)), (2, .int .i64 (m)), (7, v), (8, .int .i64 ((k : Int))), (11, .int .i64 ((k : Int))), (12, .int .i64 (n)), (13, .bool (decide ((k : Int) < n))), (16, .pointer (some ⟨gc, 0, none⟩)), (17, .int .i64 (m))]) ⟨rfl, rfl, rfl, rfl, rfl, rfl, rfl, rfl, rfl, rfl, trivial⟩ (own' := box gc 99 [vb, .int .i64 (q), .int .i64 (r)] :: ints 3 v ys :: own) rfl ?_
 refine G.step (OG.call [.pointer (some ⟨gc, 0, none⟩), .int .i64 (m)] ent52 rfl rfl rfl rfl (by exact (l1Below_w sb (Ent.drop 1 eb) (by omega) (by omega) (by omega)))) rfl rfl rfl ?_
 rintro _ _ ⟨u4, u5, u6, rfl, hs7, hs8, rfl⟩
 refine G.stepD (OD.assign rfl rfl) rfl rfl rfl ?_
 refine G.nil (GE.then_ (GC.seq (GC.seq (GC.region ?_))))
 refine G.stepD (OD.move rfl rfl) rfl rfl rfl ?_
 refine G.step (OG.call [.pointer (some ⟨gc, 0, none⟩), .int .i64 (3)] ent103 rfl rfl rfl rfl (by exact (l1Once_w sb (Ent.drop 1 eb) (by omega) (by omega) (by omega)))) rfl rfl rfl ?_
 rintro _ _ ⟨u9, u10, u11, rfl, hs12, rfl⟩
 refine G.nil (GE.then_ ?_)
 refine GC.cond rfl (fun hc13 => ?_) (fun hc13 => ?_)
 refine GC.region ?_
 refine G.stepD (OD.assign rfl rfl) rfl rfl rfl ?_
 refine G.nil (GE.then_ (GC.region ?_))
 refine G.stepD (OD.move rfl rfl) rfl rfl rfl ?_
 refine G.stepD (OD.move rfl rfl) rfl rfl rfl ?_
 refine G.step (OG.buildInts (xs := [.tmp 22]) (is := [0]) rfl et23 rfl rfl rfl rfl rfl) rfl rfl rfl ?_
 rintro v14 _ ⟨hs15, rfl⟩
 refine G.step (OG.appendInts 2 rfl rfl et23 rfl rfl rfl (Ent.ints (i := 0) rfl) (by first | omega | (simp; omega))) rfl rfl rfl ?_
 rintro v16 _ ⟨hs17, rfl⟩
 refine G.stepD (OD.assign rfl rfl) rfl rfl rfl ?_
 refine G.nil (GE.blockN (GE.then_ (GC.region ?_)))
 refine G.stepD (OD.move rfl rfl) rfl rfl rfl ?_
 refine G.stepD (OD.addI rfl rfl rfl (by omega)) rfl rfl rfl ?_
 refine G.stepD (OD.assign rfl rfl) rfl rfl rfl ?_
 refine G.nil ?_
 exact GE.again (k + 1, ys ++ [0], v16, u10, u11) (⟨by omega, by rw [List.length_append, hyl]; rfl, fun y hy => (List.mem_append.1 hy).elim (hyb y) (fun e => by rw [List.mem_singleton.1 e]; omega), hs17, by omega⟩) (by first | omega | (dsimp only; omega)) ⟨rfl, rfl, rfl, rfl, rfl, trivial⟩ [2, 1] 1 rfl
 refine GC.skip (GE.then_ (GC.region ?_))
 refine G.stepD (OD.move rfl rfl) rfl rfl rfl ?_
 refine G.stepD (OD.move rfl rfl) rfl rfl rfl ?_
 refine G.step (OG.buildInts (xs := [.tmp 22]) (is := [u4]) rfl et23 rfl rfl rfl rfl rfl) rfl rfl rfl ?_
 rintro v18 _ ⟨hs19, rfl⟩
 refine G.step (OG.appendInts 2 rfl rfl et23 rfl rfl rfl (Ent.ints (i := 0) rfl) (by first | omega | (simp; omega))) rfl rfl rfl ?_
 rintro v20 _ ⟨hs21, rfl⟩
 refine G.stepD (OD.assign rfl rfl) rfl rfl rfl ?_
 refine G.nil (GE.blockN (GE.then_ (GC.region ?_)))
 refine G.stepD (OD.move rfl rfl) rfl rfl rfl ?_
 refine G.stepD (OD.addI rfl rfl rfl (by omega)) rfl rfl rfl ?_
 refine G.stepD (OD.assign rfl rfl) rfl rfl rfl ?_
 refine G.nil ?_
 exact GE.again (k + 1, ys ++ [u4], v20, u10, u11) (⟨by omega, by rw [List.length_append, hyl]; rfl, fun y hy => (List.mem_append.1 hy).elim (hyb y) (fun e => by rw [List.mem_singleton.1 e]; omega), hs21, by omega⟩) (by first | omega | (dsimp only; omega)) ⟨rfl, rfl, rfl, rfl, rfl, trivial⟩ [2, 1] 1 rfl
 replace hc3 := of_decide_eq_false hc3
 refine GC.exit (GE.pass (GE.pass (GE.hit (GE.then_ (GC.seq (GC.region ?_))))))
 refine G.stepD (OD.move rfl rfl) rfl rfl rfl ?_
 refine G.stepD (OD.assign rfl rfl) rfl rfl rfl ?_
 refine G.nil (GE.then_ (GC.ret ?_))
 exact GE.body [] 0 (res1 rfl rfl) rfl (⟨v, ys, q, r, rfl, (hv), (by omega), (hyb), (by omega), rfl⟩)

theorem l12List_w_c {W : World} {own : List Asn} {i : Nat} {gc : Nat} {vb : Value} {bs : List Int} {n : Int} {m : Int} (hcu : own[i]? = some (curA gc 99 vb)) (sb : IsS vb) (eb : Ent (own.eraseIdx i) fun w => Byts w vb bs) (hbl : bs.length ≤ 1048576) (hnn : 0 ≤ n ∧ n ≤ 1000) (hbe : 1 ≤ m ∧ m ≤ 256) : Spec Try.prog 85 [.pointer (some ⟨gc, 0, none⟩), .int .i64 (n), .int .i64 (m)] W own (fun v ow => ∃ (v0 : Value) (xs0 : List Int), v = v0 ∧ IsS v0 ∧ (xs0.length = (n : Int).toNat) ∧ (∀ y ∈ xs0, 0 ≤ y ∧ y < m) ∧ ow = ints 3 v0 xs0 :: own) := fun w hst => by
  obtain ⟨ci, ch, hci, hs2⟩ := hst.curAt hcu
  refine (l12List_w sb eb hci hbl hnn hbe w hs2).mono ?_
  rintro e w2 ⟨v, ow, he, ⟨v0, xs0, i0, h0, hv, a0, a1, a2, a3, rfl⟩, hs⟩
  exact ⟨_, _, he, ⟨v0, xs0, hv, a0, a1, a2, rfl⟩, hs.curBack [ints 3 v0 xs0] hcu a3⟩

set_option maxRecDepth 100000 in
theorem l1New_w {W : World} {own : List Asn} {vcode : Value} {code : List Int}  (scode : IsS vcode) (ecode : Ent own fun w => Byts w vcode code)  (hcl : code.length ≤ 1048576) : Spec Try.prog 50 [vcode] W own (fun v ow => ∃ (g0 : Nat) (h0 : Int), v = .pointer (some ⟨g0, 0, none⟩) ∧ ow = box g0 99 [vcode, .int .i64 (0), .int .i64 (h0)] :: own) := by
 refine Spec.enter Try.f50 _ Try.func50 rfl (n := 32) rfl rfl ?_
 refine GC.seq (GC.region ?_)
 refine G.stepD (OD.assign rfl rfl) rfl rfl rfl ?_
 refine G.nil (GE.then_ (GC.seq (GC.region ?_)))
 refine G.stepD (OD.move rfl rfl) rfl rfl rfl ?_
 refine G.stepD (OD.len rfl rfl et32 rfl ecode) rfl rfl rfl ?_
 refine G.stepD (OD.addI rfl rfl rfl (by omega)) rfl rfl rfl ?_
 refine G.stepD (OD.assign rfl rfl) rfl rfl rfl ?_
 refine G.nil (GE.then_ (GC.seq (GC.seq (GC.region ?_))))
 refine G.stepD (OD.assign rfl rfl) rfl rfl rfl ?_
 refine G.nil (GE.then_ (GC.block ?_))
 refine GC.loop (ι := Nat × Int) (fun ⟨k, h⟩ => [(0, vcode), (3, .int .i64 (h)), (4, .int .i64 ((k : Int)))]) (fun ⟨k, h⟩ => own) (fun ⟨k, h⟩ => (k ≤ code.length)) (fun ⟨k, h⟩ => code.length - k) (0, 124929 + (code.length : Nat)) (by omega) ⟨rfl, rfl, rfl, trivial⟩ [] 0 rfl ?_
 rintro ⟨k, h⟩ hk
 refine GC.seq (GC.seq (GC.region ?_))
 refine G.stepD (OD.move rfl rfl) rfl rfl rfl ?_
 refine G.stepD (OD.move rfl rfl) rfl rfl rfl ?_
 refine G.stepD (OD.len rfl rfl et32 rfl ecode) rfl rfl rfl ?_
 refine G.stepD (OD.lss rfl rfl rfl) rfl rfl rfl ?_
 refine G.stepD (OD.move rfl rfl) rfl rfl rfl ?_
 rcases Bool.eq_false_or_eq_true (decide ((k : Int) < (code.length : Nat))) with hg1 | hg1
 have hg1e := hg1
 refine G.at [] 0 (env' := [(0, vcode), (3, .int .i64 (h)), (4, .int .i64 ((k : Int))), (8, .int .i64 ((k : Int))), (9, vcode), (10, .int .i64 ((code.length : Nat))), (11, .bool true), (12, .bool true)]) (⟨rfl, rfl, rfl, rfl, rfl, rfl, (congrArg (fun b => some (Value.bool b)) hg1e), (congrArg (fun b => some (Value.bool b)) hg1e), trivial⟩) rfl ?_
 replace hg1 := of_decide_eq_true hg1
 refine G.stepGD (OD.move rfl rfl) rfl rfl rfl rfl rfl ?_
 refine G.stepGD (OD.lss rfl rfl rfl) rfl rfl rfl rfl rfl ?_
 refine G.stepD (OD.pickT rfl rfl rfl) rfl rfl rfl ?_
 refine G.nil (GE.then_ ?_)
 refine GC.cond rfl (fun hc2 => ?_) (fun hc2 => ?_)
 replace hc2 := of_decide_eq_true hc2
 refine GC.skip (GE.then_ (GC.seq (GC.block (GC.region ?_))))
 refine G.stepD (OD.move rfl rfl) rfl rfl rfl ?_
 refine G.stepD (OD.mul rfl rfl rfl) rfl rfl rfl ?_
 refine G.stepD (OD.move rfl rfl) rfl rfl rfl ?_
 refine G.stepD (OD.move rfl rfl) rfl rfl rfl ?_
 refine G.stepD (OD.indexAddr rfl et32 rfl ecode rfl (by omega)) rfl rfl rfl ?_
 refine G.stepD (OD.loadByte rfl ti5 rfl ecode (by omega)) rfl rfl rfl ?_
 refine G.stepD (OD.conv rfl cv5_3 rfl) rfl rfl rfl ?_
 refine G.stepD (OD.add rfl rfl rfl) rfl rfl rfl ?_
 refine G.stepD (OD.add rfl rfl rfl) rfl rfl rfl ?_
 refine G.stepD (OD.andB rfl rfl rfl) rfl rfl rfl ?_
 refine G.stepD (OD.assign rfl rfl) rfl rfl rfl ?_
 refine G.nil (GE.blockN (GE.then_ (GC.region ?_)))
 refine G.stepD (OD.move rfl rfl) rfl rfl rfl ?_
 refine G.stepD (OD.addI rfl rfl rfl (by omega)) rfl rfl rfl ?_
 refine G.stepD (OD.assign rfl rfl) rfl rfl rfl ?_
 refine G.nil ?_
 exact GE.again (k + 1, andI (IntKind.i64.wrap ((IntKind.i64.wrap ((IntKind.i64.wrap (h * 131)) + (IntKind.i64.wrap (code.getD (k) 0)))) + 7)) 1073741823) (by omega) (by first | omega | (dsimp only; omega)) ⟨rfl, rfl, rfl, trivial⟩ [] 0 rfl
 replace hc2 := of_decide_eq_false hc2
 refine GC.exit (GE.pass (GE.pass (GE.hit (GE.then_ (GC.seq (GC.region ?_))))))
 refine G.stepD (OD.move rfl rfl) rfl rfl rfl ?_
 refine G.stepD (OD.move rfl rfl) rfl rfl rfl ?_
 refine G.stepD (OD.build (idx := [0, 2]) (xs := [.tmp 28, .tmp 29]) (vs := [vcode, .int .i64 (h)]) (cs := [[vcode], [.int .i64 (h)]]) (zs := [.slice none 0 0, .int .i64 (0), .int .i64 (0)]) (r := [vcode, .int .i64 (0), .int .i64 (h)]) rfl ti99 rfl rfl rfl ⟨(one_cells (IsS.one scode)), ⟨rfl, trivial⟩⟩ rfl) rfl rfl rfl ?_
 refine G.step (OG.box (cs := [vcode, .int .i64 (0), .int .i64 (h)]) rfl rfl rfl) rfl rfl rfl ?_
 rintro _ _ ⟨g3, rfl, rfl⟩
 refine G.stepD (OD.assign rfl rfl) rfl rfl rfl ?_
 refine G.nil (GE.then_ (GC.ret ?_))
 exact GE.body [] 0 (res1 rfl rfl) rfl (⟨g3, h, rfl, rfl⟩)
 have hg1e := hg1
 refine G.at [] 0 (env' := [(0, vcode), (3, .int .i64 (h)), (4, .int .i64 ((k : Int))), (8, .int .i64 ((k : Int))), (9, vcode), (10, .int .i64 ((code.length : Nat))), (11, .bool false), (12, .bool false)]) (⟨rfl, rfl, rfl, rfl, rfl, rfl, (congrArg (fun b => some (Value.bool b)) hg1e), (congrArg (fun b => some (Value.bool b)) hg1e), trivial⟩) rfl ?_
 replace hg1 := of_decide_eq_false hg1
 refine G.skipG rfl rfl rfl rfl rfl rfl (G.skipG rfl rfl rfl rfl rfl rfl ?_)
 refine G.stepD (OD.pickF rfl rfl rfl) rfl rfl rfl ?_
 refine G.nil (GE.then_ (GC.condF rfl (GC.exit (GE.pass (GE.pass (GE.hit (GE.then_ (GC.seq (GC.region ?_)))))))))
 refine G.stepD (OD.move rfl rfl) rfl rfl rfl ?_
 refine G.stepD (OD.move rfl rfl) rfl rfl rfl ?_
 refine G.stepD (OD.build (idx := [0, 2]) (xs := [.tmp 28, .tmp 29]) (vs := [vcode, .int .i64 (h)]) (cs := [[vcode], [.int .i64 (h)]]) (zs := [.slice none 0 0, .int .i64 (0), .int .i64 (0)]) (r := [vcode, .int .i64 (0), .int .i64 (h)]) rfl ti99 rfl rfl rfl ⟨(one_cells (IsS.one scode)), ⟨rfl, trivial⟩⟩ rfl) rfl rfl rfl ?_
 refine G.step (OG.box (cs := [vcode, .int .i64 (0), .int .i64 (h)]) rfl rfl rfl) rfl rfl rfl ?_
 rintro _ _ ⟨g4, rfl, rfl⟩
 refine G.stepD (OD.assign rfl rfl) rfl rfl rfl ?_
 refine G.nil (GE.then_ (GC.ret ?_))
 exact GE.body [] 0 (res1 rfl rfl) rfl (⟨g4, h, rfl, rfl⟩)

set_option maxRecDepth 100000 in
theorem big_w {W : World} {own : List Asn} {vcode : Value} {code : List Int}  (scode : IsS vcode) (ecode : Ent own fun w => Byts w vcode code)  (hl : code.length ≤ 9223372036854775807) : Spec Try.prog 17 [vcode] W own (fun v ow => v = .bool (decide (1048576 < (code.length : Int))) ∧ ow = own) := by
 refine Spec.enter Try.f17 _ Try.func17 rfl (n := 6) rfl rfl ?_
 refine GC.seq (GC.region ?_)
 refine G.stepD (OD.assign rfl rfl) rfl rfl rfl ?_
 refine G.nil (GE.then_ (GC.seq (GC.region ?_)))
 refine G.stepD (OD.move rfl rfl) rfl rfl rfl ?_
 refine G.stepD (OD.len rfl rfl et32 rfl ecode) rfl rfl rfl ?_
 refine G.stepD (OD.gtr rfl rfl rfl) rfl rfl rfl ?_
 refine G.stepD (OD.assign rfl rfl) rfl rfl rfl ?_
 refine G.nil (GE.then_ (GC.ret ?_))
 exact GE.body [] 0 (res1 rfl rfl) rfl (⟨rfl, rfl⟩)

set_option maxRecDepth 100000 in
theorem l1PickInt_w {W : World} {own : List Asn} {gc : Nat} {vb : Value} {bs : List Int} {ci ch : Int} {vx : Value} {x : List Int}  (sb : IsS vb) (eb : Ent own fun w => Byts w vb bs)   (sx : IsS vx) (ex : Ent own fun w => Ints w vx x)  (hci : 0 ≤ ci) (hbl : bs.length ≤ 1048576) (hn : 1 ≤ x.length ∧ x.length ≤ 256) : Spec Try.prog 83 [.pointer (some ⟨gc, 0, none⟩), vx] W (box gc 99 [vb, .int .i64 (ci), .int .i64 (ch)] :: own) (fun v ow => ∃ (k0 : Nat) (i0 : Int) (h0 : Int), v = .int .i64 (x.getD k0 0) ∧ (k0 < x.length) ∧ (0 ≤ i0) ∧ ow = box gc 99 [vb, .int .i64 (i0), .int .i64 (h0)] :: own) := by
 refine Spec.enter Try.f83 _ Try.func83 rfl (n := 12) rfl rfl ?_
 refine GC.seq (GC.region ?_)
 refine G.stepD (OD.assign rfl rfl) rfl rfl rfl ?_
 refine G.nil (GE.then_ (GC.seq (GC.region ?_)))
 refine G.stepD (OD.move rfl rfl) rfl rfl rfl ?_
 refine G.stepD (OD.move rfl rfl) rfl rfl rfl ?_
 refine G.stepD (OD.move rfl rfl) rfl rfl rfl ?_
 refine G.stepD (OD.len rfl rfl et23 rfl (Ent.drop 1 ex)) rfl rfl rfl ?_
 refine G.step (OG.call [.pointer (some ⟨gc, 0, none⟩), .int .i64 ((x.length : Nat))] ent52 rfl rfl rfl rfl (by exact (l1Below_w sb eb (by omega) (by omega) (by omega)))) rfl rfl rfl ?_
 rintro _ _ ⟨u1, u2, u3, rfl, hs4, hs5, rfl⟩
 refine G.stepD (OD.indexAddr rfl et23 rfl (Ent.drop 1 ex) rfl (by omega)) rfl rfl rfl ?_
 refine G.stepD (OD.loadInt rfl ti3 rfl (Ent.drop 1 ex) (by omega)) rfl rfl rfl ?_
 refine G.stepD (OD.assign rfl rfl) rfl rfl rfl ?_
 refine G.nil (GE.then_ (GC.ret ?_))
 exact GE.body [] 0 (res1 rfl rfl) rfl (⟨((u1 : Int).toNat), u2, u3, rfl, (by omega), (by omega), rfl⟩)

set_option maxRecDepth 100000 in
theorem l12Prime_w {W : World} {own : List Asn} {gc : Nat} {vb : Value} {bs : List Int} {ci ch : Int}  (sb : IsS vb) (eb : Ent own fun w => Byts w vb bs)  (hci : 0 ≤ ci) (hbl : bs.length ≤ 1048576) : Spec Try.prog 51 [.pointer (some ⟨gc, 0, none⟩)] W (box gc 99 [vb, .int .i64 (ci), .int .i64 (ch)] :: own) (fun v ow => ∃ (x0 : Int) (i0 : Int) (h0 : Int), v = .int .i64 x0 ∧ (primeB x0 = true ∧ 2 ≤ x0 ∧ x0 ≤ 101) ∧ (0 ≤ i0) ∧ ow = box gc 99 [vb, .int .i64 (i0), .int .i64 (h0)] :: own) := by
 refine Spec.enter Try.f51 _ Try.func51 rfl (n := 6) rfl rfl ?_
 refine GC.seq (GC.region ?_)
 refine G.stepD (OD.assign rfl rfl) rfl rfl rfl ?_
 refine G.nil (GE.then_ (GC.seq (GC.region ?_)))
 refine G.stepD (OD.move rfl rfl) rfl rfl rfl ?_
 refine G.step (OG.buildInts (xs := [.const (.int .i64 (2)), .const (.int .i64 (3)), .const (.int .i64 (5)), .const (.int .i64 (7)), .const (.int .i64 (11)), .const (.int .i64 (101))]) (is := [2, 3, 5, 7, 11, 101]) rfl et23 rfl rfl rfl rfl rfl) rfl rfl rfl ?_
 rintro v1 _ ⟨hs2, rfl⟩
 refine G.at [1] 0 (env' := [(0, .pointer (some ⟨gc, 0, none⟩)), (2, .int .i64 (0)), (3, .pointer (some ⟨gc, 0, none⟩)), (4, v1)]) ⟨rfl, rfl, rfl, rfl, trivial⟩ (own' := box gc 99 [vb, .int .i64 (ci), .int .i64 (ch)] :: ints 3 v1 [2, 3, 5, 7, 11, 101] :: own) rfl ?_
 refine G.step (OG.call [.pointer (some ⟨gc, 0, none⟩), v1] ent83 rfl rfl rfl rfl (by exact (l1PickInt_w sb (Ent.drop 1 eb) hs2 (Ent.ints (i := 0) rfl) (by omega) (by omega) (by decide)))) rfl rfl rfl ?_
 rintro _ _ ⟨g3, u4, u5, rfl, hs6, hs7, rfl⟩
 refine G.stepD (OD.assign rfl rfl) rfl rfl rfl ?_
 refine G.nil (GE.then_ (GC.ret ?_))
 exact GE.body [0] 1 (res1 rfl rfl) rfl (⟨([2, 3, 5, 7, 11, 101].getD (g3) 0), u4, u5, rfl, (pr6 (by assumption)), (by omega), rfl⟩)

set_option maxRecDepth 100000 in
theorem l12Matrix_w {W : World} {own : List Asn} {gc : Nat} {vb : Value} {bs : List Int} {ci ch : Int} {p : Int} {r : Int} {c : Int}  (sb : IsS vb) (eb : Ent own fun w => Byts w vb bs)   (hci : 0 ≤ ci) (hbl : bs.length ≤ 1048576) (hr : 0 ≤ r ∧ r ≤ 10) (hc : 0 ≤ c ∧ c ≤ 10) (hp : 2 ≤ p ∧ p ≤ 101) : Spec Try.prog 53 [.pointer (some ⟨gc, 0, none⟩), .int .i64 (p), .int .i64 (r), .int .i64 (c)] W (box gc 99 [vb, .int .i64 (ci), .int .i64 (ch)] :: own) (fun v ow => ∃ (v0 : Value) (xs0 : List Int) (i0 : Int) (h0 : Int), v = .agg #[.int .i64 p, .int .i64 r, .int .i64 c, v0] ∧ IsS v0 ∧ (xs0.length = (r * c : Int).toNat) ∧ (∀ y ∈ xs0, 0 ≤ y ∧ y < p) ∧ (0 ≤ i0) ∧ ow = ints 3 v0 xs0 :: box gc 99 [vb, .int .i64 (i0), .int .i64 (h0)] :: own) := by
 have hrc := mulBd (A := 10) (B := 10) hr hc
 refine Spec.enter Try.f53 _ Try.func53 rfl (n := 19) rfl rfl ?_
 refine GC.seq (GC.region ?_)
 refine G.step (OG.alloc rfl ti35 (zs := [.int .i64 (0), .int .i64 (0), .int .i64 (0), .slice none 0 0]) rfl) rfl rfl rfl ?_
 rintro _ _ ⟨g1, rfl, rfl⟩
 refine G.nil (GE.then_ (GC.seq (GC.region ?_)))
 refine G.stepD (OD.move rfl rfl) rfl rfl rfl ?_
 refine G.stepD (OD.move rfl rfl) rfl rfl rfl ?_
 refine G.stepD (OD.move rfl rfl) rfl rfl rfl ?_
 refine G.stepD (OD.move rfl rfl) rfl rfl rfl ?_
 refine G.stepD (OD.move rfl rfl) rfl rfl rfl ?_
 refine G.stepD (OD.move rfl rfl) rfl rfl rfl ?_
 refine G.stepD (OD.mulI rfl rfl rfl (by omega)) rfl rfl rfl ?_
 refine G.stepD (OD.move rfl rfl) rfl rfl rfl ?_
 refine G.at [1] 0 (env' := [(0, .pointer (some ⟨gc, 0, none⟩)), (1, .int .i64 (p)), (2, .int .i64 (r)), (3, .int .i64 (c)), (8, .pointer (some ⟨g1, 0, none⟩)), (9, .int .i64 (p)), (10, .int .i64 (r)), (11, .int .i64 (c)), (12, .pointer (some ⟨gc, 0, none⟩)), (13, .int .i64 (r)), (14, .int .i64 (c)), (15, .int .i64 (r * c)), (16, .int .i64 (p))]) ⟨rfl, rfl, rfl, rfl, rfl, rfl, rfl, rfl, rfl, rfl, rfl, rfl, rfl, trivial⟩ (own' := box gc 99 [vb, .int .i64 (ci), .int .i64 (ch)] :: box g1 35 [.int .i64 (0), .int .i64 (0), .int .i64 (0), .slice none 0 0] :: own) rfl ?_
 refine G.step (OG.call [.pointer (some ⟨gc, 0, none⟩), .int .i64 (r * c), .int .i64 (p)] ent85 rfl rfl rfl rfl (by exact (l12List_w sb (Ent.drop 1 eb) (by omega) (by omega) (by omega) (by omega)))) rfl rfl rfl ?_
 rintro v2 _ ⟨_, u3, u4, u5, rfl, hs6, hs7, hs8, hs9, rfl⟩
 refine G.stepD (OD.build (idx := [0, 1, 2, 3]) (xs := [.tmp 9, .tmp 10, .tmp 11, .tmp 17]) (vs := [.int .i64 (p), .int .i64 (r), .int .i64 (c), v2]) (cs := [[.int .i64 (p)], [.int .i64 (r)], [.int .i64 (c)], [v2]]) (zs := [.int .i64 (0), .int .i64 (0), .int .i64 (0), .slice none 0 0]) (r := [.int .i64 (p), .int .i64 (r), .int .i64 (c), v2]) rfl ti35 rfl rfl rfl ⟨rfl, ⟨rfl, ⟨rfl, ⟨(one_cells (IsS.one hs6)), trivial⟩⟩⟩⟩ rfl) rfl rfl rfl ?_
 refine G.stepD0 (OD.store rfl ti35 rfl rfl (us := [.int .i64 (p), .int .i64 (r), .int .i64 (c), v2]) rfl rfl (allC rfl (allC rfl (allC rfl (allC (IsS.one hs6) rfl)))) (i := 2) rfl rfl) rfl rfl ?_
 refine G.nil (GE.then_ (GC.ret ?_))
 exact GE.body [0, 0] 1 (resN rfl (RVs.cons (rv_cells ti35 rfl (i := 2) rfl rfl) RVs.nil) rfl) rfl (⟨v2, u3, u4, u5, rfl, (hs6), (by assumption), (by assumption), (by omega), rfl⟩)

set_option maxRecDepth 100000 in
theorem drawThree_w {W : World} {own : List Asn} {vcode : Value} {code : List Int}  (scode : IsS vcode) (ecode : Ent own fun w => Byts w vcode code)  (hcl : code.length ≤ 1048576) : Spec Try.prog 18 [vcode] W own (fun v ow => ∃ (a0 : Value) (b0 : Value) (c0 : Value) (p0 : Int) (n0 : Int) (x0 : List Int) (y0 : List Int) (z0 : List Int), v = .tuple #[.agg #[.int .i64 p0, .int .i64 n0, .int .i64 n0, a0], .agg #[.int .i64 p0, .int .i64 n0, .int .i64 n0, b0], .agg #[.int .i64 p0, .int .i64 n0, .int .i64 n0, c0]] ∧ IsS a0 ∧ IsS b0 ∧ IsS c0 ∧ (primeB p0 = true ∧ 2 ≤ p0 ∧ p0 ≤ 101) ∧ (0 ≤ n0 ∧ n0 < 5) ∧ (x0.length = (n0 * n0 : Int).toNat) ∧ (y0.length = (n0 * n0 : Int).toNat) ∧ (z0.length = (n0 * n0 : Int).toNat) ∧ (∀ y ∈ x0, 0 ≤ y ∧ y < p0) ∧ (∀ y ∈ y0, 0 ≤ y ∧ y < p0) ∧ (∀ y ∈ z0, 0 ≤ y ∧ y < p0) ∧ ow = ints 3 a0 x0 :: ints 3 b0 y0 :: ints 3 c0 z0 :: own) := by
 refine Spec.enter Try.f18 _ Try.func18 rfl (n := 29) rfl rfl ?_
 refine GC.seq (GC.region ?_)
 refine G.step (OG.alloc rfl ti35 (zs := [.int .i64 (0), .int .i64 (0), .int .i64 (0), .slice none 0 0]) rfl) rfl rfl rfl ?_
 rintro _ _ ⟨g1, rfl, rfl⟩
 refine G.step (OG.alloc rfl ti35 (zs := [.int .i64 (0), .int .i64 (0), .int .i64 (0), .slice none 0 0]) rfl) rfl rfl rfl ?_
 rintro _ _ ⟨g2, rfl, rfl⟩
 refine G.step (OG.alloc rfl ti35 (zs := [.int .i64 (0), .int .i64 (0), .int .i64 (0), .slice none 0 0]) rfl) rfl rfl rfl ?_
 rintro _ _ ⟨g3, rfl, rfl⟩
 refine G.nil (GE.then_ (GC.seq (GC.region ?_)))
 refine G.stepD (OD.move rfl rfl) rfl rfl rfl ?_
 refine G.step (OG.call [vcode] ent50 rfl rfl rfl rfl (by exact (l1New_w scode (Ent.drop 3 ecode) (by omega)))) rfl rfl rfl ?_
 rintro _ _ ⟨g4, u5, rfl, rfl⟩
 refine G.stepD (OD.assign rfl rfl) rfl rfl rfl ?_
 refine G.nil (GE.then_ (GC.seq (GC.region ?_)))
 refine G.stepD (OD.move rfl rfl) rfl rfl rfl ?_
 refine G.step (OG.call [.pointer (some ⟨g4, 0, none⟩)] ent51 rfl rfl rfl rfl (by exact (l12Prime_w scode (Ent.drop 3 ecode) (by omega) (by omega)))) rfl rfl rfl ?_
 rintro _ _ ⟨u6, u7, u8, rfl, hs9, hs10, rfl⟩
 refine G.stepD (OD.assign rfl rfl) rfl rfl rfl ?_
 refine G.nil (GE.then_ (GC.seq (GC.region ?_)))
 refine G.stepD (OD.move rfl rfl) rfl rfl rfl ?_
 refine G.step (OG.call [.pointer (some ⟨g4, 0, none⟩), .int .i64 (5)] ent52 rfl rfl rfl rfl (by exact (l1Below_w scode (Ent.drop 3 ecode) (by omega) (by omega) (by omega)))) rfl rfl rfl ?_
 rintro _ _ ⟨u11, u12, u13, rfl, hs14, hs15, rfl⟩
 refine G.stepD (OD.assign rfl rfl) rfl rfl rfl ?_
 refine G.nil (GE.then_ (GC.seq (GC.region ?_)))
 refine G.stepD (OD.move rfl rfl) rfl rfl rfl ?_
 refine G.stepD (OD.move rfl rfl) rfl rfl rfl ?_
 refine G.stepD (OD.move rfl rfl) rfl rfl rfl ?_
 refine G.stepD (OD.move rfl rfl) rfl rfl rfl ?_
 refine G.step (OG.call [.pointer (some ⟨g4, 0, none⟩), .int .i64 (u6), .int .i64 (u11), .int .i64 (u11)] ent53 rfl rfl rfl rfl (by exact (l12Matrix_w scode (Ent.drop 3 ecode) (by omega) (by omega) (by omega) (by omega) (by omega)))) rfl rfl rfl ?_
 rintro _ _ ⟨v16, u17, u18, u19, rfl, hs20, hs21, hs22, hs23, rfl⟩
 refine G.stepD (OD.move rfl rfl) rfl rfl rfl ?_
 refine G.stepD (OD.move rfl rfl) rfl rfl rfl ?_
 refine G.stepD (OD.move rfl rfl) rfl rfl rfl ?_
 refine G.stepD (OD.move rfl rfl) rfl rfl rfl ?_
 refine G.at [1] 0 (env' := [(0, vcode), (2, .pointer (some ⟨g1, 0, none⟩)), (3, .pointer (some ⟨g2, 0, none⟩)), (4, .pointer (some ⟨g3, 0, none⟩)), (8, vcode), (9, .pointer (some ⟨g4, 0, none⟩)), (5, .pointer (some ⟨g4, 0, none⟩)), (10, .pointer (some ⟨g4, 0, none⟩)), (11, .int .i64 (u6)), (6, .int .i64 (u6)), (12, .pointer (some ⟨g4, 0, none⟩)), (13, .int .i64 (u11)), (7, .int .i64 (u11)), (14, .pointer (some ⟨g4, 0, none⟩)), (15, .int .i64 (u6)), (16, .int .i64 (u11)), (17, .int .i64 (u11)), (18, .agg #[.int .i64 (u6), .int .i64 (u11), .int .i64 (u11), v16]), (19, .pointer (some ⟨g4, 0, none⟩)), (20, .int .i64 (u6)), (21, .int .i64 (u11)), (22, .int .i64 (u11))]) ⟨rfl, rfl, rfl, rfl, rfl, rfl, rfl, rfl, rfl, rfl, rfl, rfl, rfl, rfl, rfl, rfl, rfl, rfl, rfl, rfl, rfl, rfl, trivial⟩ (own' := box g4 99 [vcode, .int .i64 (u18), .int .i64 (u19)] :: ints 3 v16 u17 :: box g3 35 [.int .i64 (0), .int .i64 (0), .int .i64 (0), .slice none 0 0] :: box g2 35 [.int .i64 (0), .int .i64 (0), .int .i64 (0), .slice none 0 0] :: box g1 35 [.int .i64 (0), .int .i64 (0), .int .i64 (0), .slice none 0 0] :: own) rfl ?_
 refine G.step (OG.call [.pointer (some ⟨g4, 0, none⟩), .int .i64 (u6), .int .i64 (u11), .int .i64 (u11)] ent53 rfl rfl rfl rfl (by exact (l12Matrix_w scode (Ent.drop 4 ecode) (by omega) (by omega) (by omega) (by omega) (by omega)))) rfl rfl rfl ?_
 rintro _ _ ⟨v24, u25, u26, u27, rfl, hs28, hs29, hs30, hs31, rfl⟩
 refine G.stepD (OD.move rfl rfl) rfl rfl rfl ?_
 refine G.stepD (OD.move rfl rfl) rfl rfl rfl ?_
 refine G.stepD (OD.move rfl rfl) rfl rfl rfl ?_
 refine G.stepD (OD.move rfl rfl) rfl rfl rfl ?_
 refine G.at [1] 0 (env' := [(0, vcode), (2, .pointer (some ⟨g1, 0, none⟩)), (3, .pointer (some ⟨g2, 0, none⟩)), (4, .pointer (some ⟨g3, 0, none⟩)), (8, vcode), (9, .pointer (some ⟨g4, 0, none⟩)), (5, .pointer (some ⟨g4, 0, none⟩)), (10, .pointer (some ⟨g4, 0, none⟩)), (11, .int .i64 (u6)), (6, .int .i64 (u6)), (12, .pointer (some ⟨g4, 0, none⟩)), (13, .int .i64 (u11)), (7, .int .i64 (u11)), (14, .pointer (some ⟨g4, 0, none⟩)), (15, .int .i64 (u6)), (16, .int .i64 (u11)), (17, .int .i64 (u11)), (18, .agg #[.int .i64 (u6), .int .i64 (u11), .int .i64 (u11), v16]), (19, .pointer (some ⟨g4, 0, none⟩)), (20, .int .i64 (u6)), (21, .int .i64 (u11)), (22, .int .i64 (u11)), (23, .agg #[.int .i64 (u6), .int .i64 (u11), .int .i64 (u11), v24]), (24, .pointer (some ⟨g4, 0, none⟩)), (25, .int .i64 (u6)), (26, .int .i64 (u11)), (27, .int .i64 (u11))]) ⟨rfl, rfl, rfl, rfl, rfl, rfl, rfl, rfl, rfl, rfl, rfl, rfl, rfl, rfl, rfl, rfl, rfl, rfl, rfl, rfl, rfl, rfl, rfl, rfl, rfl, rfl, rfl, trivial⟩ (own' := box g4 99 [vcode, .int .i64 (u26), .int .i64 (u27)] :: ints 3 v24 u25 :: ints 3 v16 u17 :: box g3 35 [.int .i64 (0), .int .i64 (0), .int .i64 (0), .slice none 0 0] :: box g2 35 [.int .i64 (0), .int .i64 (0), .int .i64 (0), .slice none 0 0] :: box g1 35 [.int .i64 (0), .int .i64 (0), .int .i64 (0), .slice none 0 0] :: own) rfl ?_
 refine G.step (OG.call [.pointer (some ⟨g4, 0, none⟩), .int .i64 (u6), .int .i64 (u11), .int .i64 (u11)] ent53 rfl rfl rfl rfl (by exact (l12Matrix_w scode (Ent.drop 5 ecode) (by omega) (by omega) (by omega) (by omega) (by omega)))) rfl rfl rfl ?_
 rintro _ _ ⟨v32, u33, u34, u35, rfl, hs36, hs37, hs38, hs39, rfl⟩
 refine G.stepD0 (OD.store rfl ti35 rfl rfl (us := [.int .i64 (u6), .int .i64 (u11), .int .i64 (u11), v16]) rfl rfl (allC rfl (allC rfl (allC rfl (allC (IsS.one hs20) rfl)))) (i := 6) rfl rfl) rfl rfl ?_
 refine G.stepD0 (OD.store rfl ti35 rfl rfl (us := [.int .i64 (u6), .int .i64 (u11), .int .i64 (u11), v24]) rfl rfl (allC rfl (allC rfl (allC rfl (allC (IsS.one hs28) rfl)))) (i := 5) rfl rfl) rfl rfl ?_
 refine G.stepD0 (OD.store rfl ti35 rfl rfl (us := [.int .i64 (u6), .int .i64 (u11), .int .i64 (u11), v32]) rfl rfl (allC rfl (allC rfl (allC rfl (allC (IsS.one hs36) rfl)))) (i := 4) rfl rfl) rfl rfl ?_
 refine G.nil (GE.then_ (GC.ret ?_))
 exact GE.body [3, 2, 0] 4 (resN rfl (RVs.cons (rv_cells ti35 rfl (i := 6) rfl rfl) (RVs.cons (rv_cells ti35 rfl (i := 5) rfl rfl) (RVs.cons (rv_cells ti35 rfl (i := 4) rfl rfl) RVs.nil))) rfl) rfl (⟨v16, v24, v32, u6, u11, (u17), (u25), (u33), rfl, (hs20), (hs28), (hs36), (by assumption), (by assumption), (by assumption), (by assumption), (by assumption), (by assumption), (by assumption), (by assumption), rfl⟩)

end Go.Proofs.Ytiapoopcicjldaa
