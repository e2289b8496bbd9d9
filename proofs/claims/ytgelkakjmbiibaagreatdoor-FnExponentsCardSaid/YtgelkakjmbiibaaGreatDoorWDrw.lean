/-
  What is drawn: contracts by walks.
-/
import Derived.Test.YtgelkakjmbiibaaGreatDoorFct
import Derived.Test.YtgelkakjmbiibaaGreatDoorWNewA
import Derived.Test.YtgelkakjmbiibaaGreatDoorZ12
import Derived.Test.YtgelkakjmbiibaaGreatDoorLate
import Derived.Test.YtgelkakjmbiibaaGreatDoorZ09
namespace Go.Proofs.YtgelkakjmbiibaaGreatDoor
set_option linter.unusedVariables false
set_option linter.unusedSimpArgs false
open Go.RowKit
theorem ti5 : TI Tryz.prog 5 false 1 (.int .u8 (0)) [] := ⟨fun w => by kernel_rfl, by kernel_rfl, fun h => by cases h⟩
theorem ti33 : TI Tryz.prog 33 false 1 (.slice none 0 0) [] := ⟨fun w => by kernel_rfl, by kernel_rfl, fun h => by cases h⟩
theorem ti113 : TI Tryz.prog 113 true 3 (.agg #[.slice none 0 0, .int .i64 (0), .int .i64 (0)]) [(0, 1), (1, 1), (2, 1)] := ⟨fun w => by kernel_rfl, by kernel_rfl, fun _ => ⟨_, Tryz.underlying113, fun w => by kernel_rfl⟩⟩
theorem et33 : ET Tryz.prog 33 5 1 1 (.int .u8 (0)) := ⟨Tryz.underlying33, by kernel_rfl, rfl, by omega⟩
theorem fa113_0 : ∀ (b k : Nat) w, (Instr.fieldAt 113 (.pointer (some ⟨b, k, none⟩)) 0).run Tryz.prog w = .ok (.pointer (some ⟨b, k + 0, none⟩)) w := fun b k w => by kernel_rfl
theorem fa113_1 : ∀ (b k : Nat) w, (Instr.fieldAt 113 (.pointer (some ⟨b, k, none⟩)) 1).run Tryz.prog w = .ok (.pointer (some ⟨b, k + 1, none⟩)) w := fun b k w => by kernel_rfl
theorem fa113_2 : ∀ (b k : Nat) w, (Instr.fieldAt 113 (.pointer (some ⟨b, k, none⟩)) 2).run Tryz.prog w = .ok (.pointer (some ⟨b, k + 2, none⟩)) w := fun b k w => by kernel_rfl
theorem ent71 : ∀ us w, (callFunc 71 us).run Tryz.prog w = .ok (.enter 71 us) w := fun us w => by kernel_rfl
theorem ent130 : ∀ us w, (callFunc 130 us).run Tryz.prog w = .ok (.enter 130 us) w := fun us w => by kernel_rfl
theorem ent131 : ∀ us w, (callFunc 131 us).run Tryz.prog w = .ok (.enter 131 us) w := fun us w => by kernel_rfl
set_option maxRecDepth 100000 in
theorem l1Byte_w {W : World} {own : List Asn} {gc : Nat} {vb : Value} {bs : List Int} {ci ch : Int}  (sb : IsS vb) (eb : Ent own fun w => Byts w vb bs)  (hci : 0 ≤ ci) (hbl : bs.length ≤ 1048576) : Spec Tryz.prog 131 [.pointer (some ⟨gc, 0, none⟩)] W (box gc 113 [vb, .int .i64 (ci), .int .i64 (ch)] :: own) (fun v ow => ∃ (x0 : Int) (i0 : Int) (h0 : Int), v = .int .i64 x0 ∧ (0 ≤ x0 ∧ x0 ≤ 255) ∧ (0 ≤ i0) ∧ ow = box gc 113 [vb, .int .i64 (i0), .int .i64 (h0)] :: own) := by
 refine Spec.enter Tryz.f131 _ Tryz.func131 rfl (n := 58) rfl rfl ?_
 refine GC.seq (GC.region ?_)
 refine G.stepD (OD.assign rfl rfl) rfl rfl rfl ?_
 refine G.nil (GE.then_ (GC.seq (GC.region ?_)))
 refine G.stepD (OD.move rfl rfl) rfl rfl rfl ?_
 refine G.stepD (OD.move rfl rfl) rfl rfl rfl ?_
 refine G.stepD (OD.nilCheck rfl rfl) rfl rfl rfl ?_
 refine G.stepD (OD.fieldAddr rfl rfl fa113_2) rfl rfl rfl ?_
 refine G.stepD (OD.load rfl ti3 rfl (i := 0) rfl rfl) rfl rfl rfl ?_
 refine G.stepD (OD.mul rfl rfl rfl) rfl rfl rfl ?_
 refine G.stepD (OD.add rfl rfl rfl) rfl rfl rfl ?_
 refine G.stepD (OD.nilCheck rfl rfl) rfl rfl rfl ?_
 refine G.stepD (OD.fieldAddr rfl rfl fa113_2) rfl rfl rfl ?_
 refine G.stepD0 (OD.store rfl ti3 rfl rfl (us := [.int .i64 (IntKind.i64.wrap ((IntKind.i64.wrap (ch * 6364136223846793005)) + 1442695040888963407))]) rfl rfl rfl (i := 0) rfl rfl) rfl rfl ?_
 refine G.nil (GE.then_ (GC.seq ?_))
 refine GC.at [] 0 (env' := [(0, .pointer (some ⟨gc, 0, none⟩))]) ⟨rfl, trivial⟩ rfl ?_
 refine GC.par (its := [⟨13, [], [], [], [], fun _ => .pointer (some ⟨gc, 0, none⟩), fun _ => True, fun _ => []⟩,
     ⟨14, [(0, 13)], [], [], [], fun _ => .pointer (some ⟨gc, 0, none⟩), fun _ => True, fun _ => []⟩,
     ⟨15, [(1, 14)], [], [], [], fun _ => .pointer (some ⟨gc, 2, none⟩), fun _ => True, fun _ => []⟩,
     ⟨16, [(2, 15)], [], [], [], fun _ => .int .i64 (IntKind.i64.wrap ((IntKind.i64.wrap (ch * 6364136223846793005)) + 1442695040888963407)), fun _ => True, fun _ => []⟩,
     ⟨17, [(3, 16)], [], [], [], fun _ => .int .i64 (shrI (IntKind.i64.wrap ((IntKind.i64.wrap (ch * 6364136223846793005)) + 1442695040888963407)) 33), fun _ => True, fun _ => []⟩,
     ⟨18, [], [], [], [], fun _ => .pointer (some ⟨gc, 0, none⟩), fun _ => True, fun _ => []⟩,
     ⟨19, [(5, 18)], [], [], [], fun _ => .pointer (some ⟨gc, 0, none⟩), fun _ => True, fun _ => []⟩,
     ⟨20, [(6, 19)], [], [], [], fun _ => .pointer (some ⟨gc, 2, none⟩), fun _ => True, fun _ => []⟩,
     ⟨21, [(7, 20)], [], [], [], fun _ => .int .i64 (IntKind.i64.wrap ((IntKind.i64.wrap (ch * 6364136223846793005)) + 1442695040888963407)), fun _ => True, fun _ => []⟩,
     ⟨22, [(8, 21)], [], [], [], fun _ => .int .i64 (shrI (IntKind.i64.wrap ((IntKind.i64.wrap (ch * 6364136223846793005)) + 1442695040888963407)) 45), fun _ => True, fun _ => []⟩,
     ⟨23, [(4, 17), (9, 22)], [], [], [], fun _ => .int .i64 (xorI (shrI (IntKind.i64.wrap ((IntKind.i64.wrap (ch * 6364136223846793005)) + 1442695040888963407)) 33) (shrI (IntKind.i64.wrap ((IntKind.i64.wrap (ch * 6364136223846793005)) + 1442695040888963407)) 45)), fun _ => True, fun _ => []⟩,
     ⟨24, [(10, 23)], [], [], [], fun _ => .int .i64 (andI (xorI (shrI (IntKind.i64.wrap ((IntKind.i64.wrap (ch * 6364136223846793005)) + 1442695040888963407)) 33) (shrI (IntKind.i64.wrap ((IntKind.i64.wrap (ch * 6364136223846793005)) + 1442695040888963407)) 45)) 255), fun _ => True, fun _ => []⟩]) (by kernel_rfl) (by kernel_rfl) (POps.cons ?_ (POps.cons ?_ (POps.cons ?_ (POps.cons ?_ (POps.cons ?_ (POps.cons ?_ (POps.cons ?_ (POps.cons ?_ (POps.cons ?_ (POps.cons ?_ (POps.cons ?_ (POps.cons ?_ POps.nil)))))))))))) ?_
 intro θ R hd
 exact Opp.plain (OG.imp (OD.move rfl rfl) (by exact fun _ _ h=>pk h rfl trivial rfl)) rfl
 rintro θ R ⟨h0d, _⟩
 exact Opp.plain (OG.imp (OD.nilCheck rfl rfl) (by exact fun _ _ h=>pk h rfl trivial rfl)) rfl
 rintro θ R ⟨h1d, _⟩
 exact Opp.plain (OG.imp (OD.fieldAddr rfl rfl fa113_2) (by exact fun _ _ h=>pk h rfl trivial rfl)) rfl
 rintro θ R ⟨h2d, _⟩
 exact Opp.plain (OG.imp (OD.load rfl ti3 rfl (i := 0) rfl rfl) (by exact fun _ _ h=>pk h rfl trivial rfl)) rfl
 rintro θ R ⟨h3d, _⟩
 exact Opp.plain (OG.imp (OD.shr rfl rfl rfl (by decide)) (by exact fun _ _ h=>pk h rfl trivial rfl)) rfl
 intro θ R hd
 exact Opp.plain (OG.imp (OD.move rfl rfl) (by exact fun _ _ h=>pk h rfl trivial rfl)) rfl
 rintro θ R ⟨h5d, _⟩
 exact Opp.plain (OG.imp (OD.nilCheck rfl rfl) (by exact fun _ _ h=>pk h rfl trivial rfl)) rfl
 rintro θ R ⟨h6d, _⟩
 exact Opp.plain (OG.imp (OD.fieldAddr rfl rfl fa113_2) (by exact fun _ _ h=>pk h rfl trivial rfl)) rfl
 rintro θ R ⟨h7d, _⟩
 exact Opp.plain (OG.imp (OD.load rfl ti3 rfl (i := 0) rfl rfl) (by exact fun _ _ h=>pk h rfl trivial rfl)) rfl
 rintro θ R ⟨h8d, _⟩
 exact Opp.plain (OG.imp (OD.shr rfl rfl rfl (by decide)) (by exact fun _ _ h=>pk h rfl trivial rfl)) rfl
 rintro θ R ⟨h4d, h9d, _⟩
 exact Opp.plain (OG.imp (OD.xorB rfl rfl rfl) (by exact fun _ _ h=>pk h rfl trivial rfl)) rfl
 rintro θ R ⟨h10d, _⟩
 exact Opp.plain (OG.imp (OD.andB rfl rfl rfl) (by exact fun _ _ h=>pk h rfl trivial rfl)) rfl
 intro θ hall
 obtain ⟨_, _, _, _, _, _, _, _, _, _, _, _, _⟩ := hall
 refine G.at [] 0 (env' := [(0, .pointer (some ⟨gc, 0, none⟩)), (24, .int .i64 (andI (xorI (shrI (IntKind.i64.wrap ((IntKind.i64.wrap (ch * 6364136223846793005)) + 1442695040888963407)) 33) (shrI (IntKind.i64.wrap ((IntKind.i64.wrap (ch * 6364136223846793005)) + 1442695040888963407)) 45)) 255))]) ⟨rfl, rfl, trivial⟩ (own' := box gc 113 [vb, .int .i64 (ci), .int .i64 (IntKind.i64.wrap ((IntKind.i64.wrap (ch * 6364136223846793005)) + 1442695040888963407))] :: own) rfl ?_
 show G _ _ _ [_] _ _ _ _
 refine G.stepD (OD.assign rfl rfl) rfl rfl rfl ?_
 refine G.nil (GE.then_ (GC.seq (GC.seq ?_)))
 refine GC.at [] 0 (env' := [(0, .pointer (some ⟨gc, 0, none⟩)), (3, .int .i64 (andI (xorI (shrI (IntKind.i64.wrap ((IntKind.i64.wrap (ch * 6364136223846793005)) + 1442695040888963407)) 33) (shrI (IntKind.i64.wrap ((IntKind.i64.wrap (ch * 6364136223846793005)) + 1442695040888963407)) 45)) 255))]) ⟨rfl, rfl, trivial⟩ rfl ?_
 refine GC.par (its := [⟨25, [], [], [], [], fun _ => .pointer (some ⟨gc, 0, none⟩), fun _ => True, fun _ => []⟩,
     ⟨26, [(0, 25)], [], [], [], fun _ => .pointer (some ⟨gc, 0, none⟩), fun _ => True, fun _ => []⟩,
     ⟨27, [(1, 26)], [], [], [], fun _ => .pointer (some ⟨gc, 1, none⟩), fun _ => True, fun _ => []⟩,
     ⟨28, [(2, 27)], [], [], [], fun _ => .int .i64 (ci), fun _ => True, fun _ => []⟩,
     ⟨29, [], [], [], [], fun _ => .pointer (some ⟨gc, 0, none⟩), fun _ => True, fun _ => []⟩,
     ⟨30, [(4, 29)], [], [], [], fun _ => .pointer (some ⟨gc, 0, none⟩), fun _ => True, fun _ => []⟩,
     ⟨31, [(5, 30)], [], [], [], fun _ => .pointer (some ⟨gc, 0, none⟩), fun _ => True, fun _ => []⟩,
     ⟨32, [(6, 31)], [], [], [], fun _ => vb, fun _ => True, fun _ => []⟩,
     ⟨33, [(7, 32)], [], [], [], fun _ => .int .i64 ((bs.length : Nat)), fun _ => True, fun _ => []⟩,
     ⟨34, [(3, 28), (8, 33)], [], [], [], fun _ => .bool (decide (ci < (bs.length : Nat))), fun _ => True, fun _ => []⟩]) (by kernel_rfl) (by kernel_rfl) (POps.cons ?_ (POps.cons ?_ (POps.cons ?_ (POps.cons ?_ (POps.cons ?_ (POps.cons ?_ (POps.cons ?_ (POps.cons ?_ (POps.cons ?_ (POps.cons ?_ POps.nil)))))))))) ?_
 intro θ R hd
 exact Opp.plain (OG.imp (OD.move rfl rfl) (by exact fun _ _ h=>pk h rfl trivial rfl)) rfl
 rintro θ R ⟨h0d, _⟩
 exact Opp.plain (OG.imp (OD.nilCheck rfl rfl) (by exact fun _ _ h=>pk h rfl trivial rfl)) rfl
 rintro θ R ⟨h1d, _⟩
 exact Opp.plain (OG.imp (OD.fieldAddr rfl rfl fa113_1) (by exact fun _ _ h=>pk h rfl trivial rfl)) rfl
 rintro θ R ⟨h2d, _⟩
 exact Opp.plain (OG.imp (OD.load rfl ti3 rfl (i := 0) rfl rfl) (by exact fun _ _ h=>pk h rfl trivial rfl)) rfl
 intro θ R hd
 exact Opp.plain (OG.imp (OD.move rfl rfl) (by exact fun _ _ h=>pk h rfl trivial rfl)) rfl
 rintro θ R ⟨h4d, _⟩
 exact Opp.plain (OG.imp (OD.nilCheck rfl rfl) (by exact fun _ _ h=>pk h rfl trivial rfl)) rfl
 rintro θ R ⟨h5d, _⟩
 exact Opp.plain (OG.imp (OD.fieldAddr rfl rfl fa113_0) (by exact fun _ _ h=>pk h rfl trivial rfl)) rfl
 rintro θ R ⟨h6d, _⟩
 exact Opp.plain (OG.imp (OD.load rfl ti33 rfl (i := 0) rfl rfl) (by exact fun _ _ h=>pk h rfl trivial rfl)) rfl
 rintro θ R ⟨h7d, _⟩
 exact Opp.plain (OG.imp (OD.len rfl rfl et33 rfl (Ent.drop 1 eb.app)) (by exact fun _ _ h=>pk h rfl trivial rfl)) rfl
 rintro θ R ⟨h3d, h8d, _⟩
 exact Opp.plain (OG.imp (OD.lss rfl rfl rfl) (by exact fun _ _ h=>pk h rfl trivial rfl)) rfl
 intro θ hall
 obtain ⟨_, _, _, _, _, _, _, _, _, _, _⟩ := hall
 refine G.at [] 0 (env' := [(0, .pointer (some ⟨gc, 0, none⟩)), (3, .int .i64 (andI (xorI (shrI (IntKind.i64.wrap ((IntKind.i64.wrap (ch * 6364136223846793005)) + 1442695040888963407)) 33) (shrI (IntKind.i64.wrap ((IntKind.i64.wrap (ch * 6364136223846793005)) + 1442695040888963407)) 45)) 255)), (34, .bool (decide (ci < (bs.length : Nat))))]) ⟨rfl, rfl, rfl, trivial⟩ (own' := box gc 113 [vb, .int .i64 (ci), .int .i64 (IntKind.i64.wrap ((IntKind.i64.wrap (ch * 6364136223846793005)) + 1442695040888963407))] :: own) rfl ?_
 show G _ _ _ [] _ _ _ _
 refine G.nil (GE.then_ ?_)
 refine GC.cond rfl (fun hc1 => ?_) (fun hc1 => ?_)
 replace hc1 := of_decide_eq_true hc1
 refine GC.seq ?_
 refine GC.at [] 0 (env' := [(0, .pointer (some ⟨gc, 0, none⟩)), (3, .int .i64 (andI (xorI (shrI (IntKind.i64.wrap ((IntKind.i64.wrap (ch * 6364136223846793005)) + 1442695040888963407)) 33) (shrI (IntKind.i64.wrap ((IntKind.i64.wrap (ch * 6364136223846793005)) + 1442695040888963407)) 45)) 255))]) ⟨rfl, rfl, trivial⟩ rfl ?_
 refine GC.par (its := [⟨35, [], [], [], [], fun _ => .int .i64 (andI (xorI (shrI (IntKind.i64.wrap ((IntKind.i64.wrap (ch * 6364136223846793005)) + 1442695040888963407)) 33) (shrI (IntKind.i64.wrap ((IntKind.i64.wrap (ch * 6364136223846793005)) + 1442695040888963407)) 45)) 255), fun _ => True, fun _ => []⟩,
     ⟨36, [], [], [], [], fun _ => .pointer (some ⟨gc, 0, none⟩), fun _ => True, fun _ => []⟩,
     ⟨37, [(1, 36)], [], [], [], fun _ => .pointer (some ⟨gc, 0, none⟩), fun _ => True, fun _ => []⟩,
     ⟨38, [(2, 37)], [], [], [], fun _ => .pointer (some ⟨gc, 0, none⟩), fun _ => True, fun _ => []⟩,
     ⟨39, [(3, 38)], [], [], [], fun _ => vb, fun _ => True, fun _ => []⟩,
     ⟨40, [], [], [], [], fun _ => .pointer (some ⟨gc, 0, none⟩), fun _ => True, fun _ => []⟩,
     ⟨41, [(5, 40)], [], [], [], fun _ => .pointer (some ⟨gc, 0, none⟩), fun _ => True, fun _ => []⟩,
     ⟨42, [(6, 41)], [], [], [], fun _ => .pointer (some ⟨gc, 1, none⟩), fun _ => True, fun _ => []⟩,
     ⟨43, [(7, 42)], [], [], [], fun _ => .int .i64 (ci), fun _ => True, fun _ => []⟩,
     ⟨44, [(4, 39), (8, 43)], [], [], [], fun _ => elemPtr vb 1 ((ci : Int).toNat), fun _ => True, fun _ => []⟩,
     ⟨45, [(9, 44)], [], [], [], fun _ => .int .u8 (bs.getD ((ci : Int).toNat) 0), fun _ => True, fun _ => []⟩,
     ⟨46, [(10, 45)], [], [], [], fun _ => .int .i64 (IntKind.i64.wrap (bs.getD ((ci : Int).toNat) 0)), fun _ => True, fun _ => []⟩,
     ⟨47, [(0, 35), (11, 46)], [], [], [], fun _ => .int .i64 (IntKind.i64.wrap ((andI (xorI (shrI (IntKind.i64.wrap ((IntKind.i64.wrap (ch * 6364136223846793005)) + 1442695040888963407)) 33) (shrI (IntKind.i64.wrap ((IntKind.i64.wrap (ch * 6364136223846793005)) + 1442695040888963407)) 45)) 255) + (IntKind.i64.wrap (bs.getD ((ci : Int).toNat) 0)))), fun _ => True, fun _ => []⟩,
     ⟨48, [(12, 47)], [], [], [], fun _ => .int .i64 (andI (IntKind.i64.wrap ((andI (xorI (shrI (IntKind.i64.wrap ((IntKind.i64.wrap (ch * 6364136223846793005)) + 1442695040888963407)) 33) (shrI (IntKind.i64.wrap ((IntKind.i64.wrap (ch * 6364136223846793005)) + 1442695040888963407)) 45)) 255) + (IntKind.i64.wrap (bs.getD ((ci : Int).toNat) 0)))) 255), fun _ => True, fun _ => []⟩]) (by kernel_rfl) (by kernel_rfl) (POps.cons ?_ (POps.cons ?_ (POps.cons ?_ (POps.cons ?_ (POps.cons ?_ (POps.cons ?_ (POps.cons ?_ (POps.cons ?_ (POps.cons ?_ (POps.cons ?_ (POps.cons ?_ (POps.cons ?_ (POps.cons ?_ (POps.cons ?_ POps.nil)))))))))))))) ?_
 intro θ R hd
 exact Opp.plain (OG.imp (OD.move rfl rfl) (by exact fun _ _ h=>pk h rfl trivial rfl)) rfl
 intro θ R hd
 exact Opp.plain (OG.imp (OD.move rfl rfl) (by exact fun _ _ h=>pk h rfl trivial rfl)) rfl
 rintro θ R ⟨h1d, _⟩
 exact Opp.plain (OG.imp (OD.nilCheck rfl rfl) (by exact fun _ _ h=>pk h rfl trivial rfl)) rfl
 rintro θ R ⟨h2d, _⟩
 exact Opp.plain (OG.imp (OD.fieldAddr rfl rfl fa113_0) (by exact fun _ _ h=>pk h rfl trivial rfl)) rfl
 rintro θ R ⟨h3d, _⟩
 exact Opp.plain (OG.imp (OD.load rfl ti33 rfl (i := 0) rfl rfl) (by exact fun _ _ h=>pk h rfl trivial rfl)) rfl
 intro θ R hd
 exact Opp.plain (OG.imp (OD.move rfl rfl) (by exact fun _ _ h=>pk h rfl trivial rfl)) rfl
 rintro θ R ⟨h5d, _⟩
 exact Opp.plain (OG.imp (OD.nilCheck rfl rfl) (by exact fun _ _ h=>pk h rfl trivial rfl)) rfl
 rintro θ R ⟨h6d, _⟩
 exact Opp.plain (OG.imp (OD.fieldAddr rfl rfl fa113_1) (by exact fun _ _ h=>pk h rfl trivial rfl)) rfl
 rintro θ R ⟨h7d, _⟩
 exact Opp.plain (OG.imp (OD.load rfl ti3 rfl (i := 0) rfl rfl) (by exact fun _ _ h=>pk h rfl trivial rfl)) rfl
 rintro θ R ⟨h4d, h8d, _⟩
 exact Opp.plain (OG.imp (OD.indexAddr rfl et33 rfl (Ent.drop 1 eb.app) rfl (by omega)) (by exact fun _ _ h=>pk h rfl trivial rfl)) rfl
 rintro θ R ⟨h9d, _⟩
 exact Opp.plain (OG.imp (OD.loadByte rfl ti5 rfl (Ent.drop 1 eb.app) (by omega)) (by exact fun _ _ h=>pk h rfl trivial rfl)) rfl
 rintro θ R ⟨h10d, _⟩
 exact Opp.plain (OG.imp (OD.conv rfl cv5_3 rfl) (by exact fun _ _ h=>pk h rfl trivial rfl)) rfl
 rintro θ R ⟨h0d, h11d, _⟩
 exact Opp.plain (OG.imp (OD.add rfl rfl rfl) (by exact fun _ _ h=>pk h rfl trivial rfl)) rfl
 rintro θ R ⟨h12d, _⟩
 exact Opp.plain (OG.imp (OD.andB rfl rfl rfl) (by exact fun _ _ h=>pk h rfl trivial rfl)) rfl
 intro θ hall
 obtain ⟨_, _, _, _, _, _, _, _, _, _, _, _, _, _, _⟩ := hall
 refine G.at [] 0 (env' := [(0, .pointer (some ⟨gc, 0, none⟩)), (3, .int .i64 (andI (xorI (shrI (IntKind.i64.wrap ((IntKind.i64.wrap (ch * 6364136223846793005)) + 1442695040888963407)) 33) (shrI (IntKind.i64.wrap ((IntKind.i64.wrap (ch * 6364136223846793005)) + 1442695040888963407)) 45)) 255)), (48, .int .i64 (andI (IntKind.i64.wrap ((andI (xorI (shrI (IntKind.i64.wrap ((IntKind.i64.wrap (ch * 6364136223846793005)) + 1442695040888963407)) 33) (shrI (IntKind.i64.wrap ((IntKind.i64.wrap (ch * 6364136223846793005)) + 1442695040888963407)) 45)) 255) + (IntKind.i64.wrap (bs.getD ((ci : Int).toNat) 0)))) 255))]) ⟨rfl, rfl, rfl, trivial⟩ (own' := box gc 113 [vb, .int .i64 (ci), .int .i64 (IntKind.i64.wrap ((IntKind.i64.wrap (ch * 6364136223846793005)) + 1442695040888963407))] :: own) rfl ?_
 show G _ _ _ [_] _ _ _ _
 refine G.stepD (OD.assign rfl rfl) rfl rfl rfl ?_
 refine G.nil (GE.then_ (GC.region ?_))
 refine G.stepD (OD.move rfl rfl) rfl rfl rfl ?_
 refine G.stepD (OD.move rfl rfl) rfl rfl rfl ?_
 refine G.stepD (OD.nilCheck rfl rfl) rfl rfl rfl ?_
 refine G.stepD (OD.fieldAddr rfl rfl fa113_1) rfl rfl rfl ?_
 refine G.stepD (OD.load rfl ti3 rfl (i := 0) rfl rfl) rfl rfl rfl ?_
 refine G.stepD (OD.addI rfl rfl rfl (by omega)) rfl rfl rfl ?_
 refine G.stepD (OD.nilCheck rfl rfl) rfl rfl rfl ?_
 refine G.stepD (OD.fieldAddr rfl rfl fa113_1) rfl rfl rfl ?_
 refine G.stepD0 (OD.store rfl ti3 rfl rfl (us := [.int .i64 (ci + 1)]) rfl rfl rfl (i := 0) rfl rfl) rfl rfl ?_
 refine G.nil (GE.then_ (GC.seq (GC.region ?_)))
 refine G.stepD (OD.move rfl rfl) rfl rfl rfl ?_
 refine G.stepD (OD.assign rfl rfl) rfl rfl rfl ?_
 refine G.nil (GE.then_ (GC.ret ?_))
 exact GE.body [] 0 (res1 rfl rfl) rfl (⟨(andI (IntKind.i64.wrap ((andI (xorI (shrI (IntKind.i64.wrap ((IntKind.i64.wrap (ch * 6364136223846793005)) + 1442695040888963407)) 33) (shrI (IntKind.i64.wrap ((IntKind.i64.wrap (ch * 6364136223846793005)) + 1442695040888963407)) 45)) 255) + (IntKind.i64.wrap (bs.getD ((ci : Int).toNat) 0)))) 255), ci + 1, IntKind.i64.wrap ((IntKind.i64.wrap (ch * 6364136223846793005)) + 1442695040888963407), rfl, (andI_255 _), (by omega), rfl⟩)
 replace hc1 := of_decide_eq_false hc1
 refine GC.skip (GE.then_ (GC.seq (GC.region ?_)))
 refine G.stepD (OD.move rfl rfl) rfl rfl rfl ?_
 refine G.stepD (OD.assign rfl rfl) rfl rfl rfl ?_
 refine G.nil (GE.then_ (GC.ret ?_))
 exact GE.body [] 0 (res1 rfl rfl) rfl (⟨(andI (xorI (shrI (IntKind.i64.wrap ((IntKind.i64.wrap (ch * 6364136223846793005)) + 1442695040888963407)) 33) (shrI (IntKind.i64.wrap ((IntKind.i64.wrap (ch * 6364136223846793005)) + 1442695040888963407)) 45)) 255), ci, IntKind.i64.wrap ((IntKind.i64.wrap (ch * 6364136223846793005)) + 1442695040888963407), rfl, (andI_255 _), (by omega), rfl⟩)
set_option maxRecDepth 100000 in
theorem l1Below_w {W : World} {own : List Asn} {gc : Nat} {vb : Value} {bs : List Int} {ci ch : Int} {n : Int}  (sb : IsS vb) (eb : Ent own fun w => Byts w vb bs)   (hci : 0 ≤ ci) (hbl : bs.length ≤ 1048576) (hn : 1 ≤ n ∧ n ≤ 256) : Spec Tryz.prog 71 [.pointer (some ⟨gc, 0, none⟩), .int .i64 (n)] W (box gc 113 [vb, .int .i64 (ci), .int .i64 (ch)] :: own) (fun v ow => ∃ (x0 : Int) (i0 : Int) (h0 : Int), v = .int .i64 x0 ∧ (0 ≤ x0 ∧ x0 < n) ∧ (0 ≤ i0) ∧ ow = box gc 113 [vb, .int .i64 (i0), .int .i64 (h0)] :: own) := by
 refine Spec.enter Tryz.f71 _ Tryz.func71 rfl (n := 37) rfl rfl ?_
 refine GC.seq (GC.region ?_)
 refine G.stepD (OD.assign rfl rfl) rfl rfl rfl ?_
 refine G.nil (GE.then_ (GC.seq (GC.seq (GC.region ?_))))
 refine G.stepD (OD.move rfl rfl) rfl rfl rfl ?_
 refine G.stepD (OD.leq rfl rfl rfl) rfl rfl rfl ?_
 refine G.nil (GE.then_ ?_)
 refine GC.cond rfl (fun hc1 => ?_) (fun hc1 => ?_)
 replace hc1 := of_decide_eq_true hc1
 exfalso; omega
 replace hc1 := of_decide_eq_false hc1
 refine GC.skip (GE.then_ (GC.seq (GC.seq (GC.region ?_))))
 refine G.stepD (OD.move rfl rfl) rfl rfl rfl ?_
 refine G.stepD (OD.leq rfl rfl rfl) rfl rfl rfl ?_
 refine G.nil (GE.then_ ?_)
 refine GC.cond rfl (fun hc2 => ?_) (fun hc2 => ?_)
 replace hc2 := of_decide_eq_true hc2
 refine GC.seq (GC.region ?_)
 refine G.stepD (OD.move rfl rfl) rfl rfl rfl ?_
 refine G.step (OG.call [.pointer (some ⟨gc, 0, none⟩)] ent131 rfl rfl rfl rfl (by exact (l1Byte_w sb eb (by omega) (by omega)))) rfl rfl rfl ?_
 rintro _ _ ⟨u3, u4, u5, rfl, hs6, hs7, rfl⟩
 refine G.stepD (OD.move rfl rfl) rfl rfl rfl ?_
 refine G.stepD (OD.rem rfl rfl rfl (by omega)) rfl rfl rfl ?_
 refine G.stepD (OD.assign rfl rfl) rfl rfl rfl ?_
 refine G.nil (GE.then_ (GC.ret (GE.passR ?_)))
 exact GE.body [] 0 (res1 rfl rfl) rfl (⟨((u3).tmod n), u4, u5, rfl, (tmod_rng (by omega) (by omega)), (by omega), rfl⟩)
 replace hc2 := of_decide_eq_false hc2
 exfalso; omega
set_option maxRecDepth 100000 in
theorem l1Pick_w {W : World} {own : List Asn} {gc : Nat} {vb : Value} {bs : List Int} {ci ch : Int} {vxs : Value} {xs : List ByteArray}  (sb : IsS vb) (eb : Ent own fun w => Byts w vb bs)   (sxs : IsS vxs) (exs : Ent own fun w => Strs w vxs xs)  (hci : 0 ≤ ci) (hbl : bs.length ≤ 1048576) (hn : 1 ≤ xs.length ∧ xs.length ≤ 256) : Spec Tryz.prog 130 [.pointer (some ⟨gc, 0, none⟩), vxs] W (box gc 113 [vb, .int .i64 (ci), .int .i64 (ch)] :: own) (fun v ow => ∃ (k0 : Nat) (i0 : Int) (h0 : Int), v = .string (xs.getD k0 ⟨#[]⟩) ∧ (k0 < xs.length) ∧ (0 ≤ i0) ∧ ow = box gc 113 [vb, .int .i64 (i0), .int .i64 (h0)] :: own) := by
 refine Spec.enter Tryz.f130 _ Tryz.func130 rfl (n := 12) rfl rfl ?_
 refine GC.seq (GC.region ?_)
 refine G.stepD (OD.assign rfl rfl) rfl rfl rfl ?_
 refine G.nil (GE.then_ (GC.seq (GC.region ?_)))
 refine G.stepD (OD.move rfl rfl) rfl rfl rfl ?_
 refine G.stepD (OD.move rfl rfl) rfl rfl rfl ?_
 refine G.stepD (OD.move rfl rfl) rfl rfl rfl ?_
 refine G.stepD (OD.len rfl rfl et93 rfl (Ent.drop 1 exs)) rfl rfl rfl ?_
 refine G.step (OG.call [.pointer (some ⟨gc, 0, none⟩), .int .i64 ((xs.length : Nat))] ent71 rfl rfl rfl rfl (by exact (l1Below_w sb eb (by omega) (by omega) (by omega)))) rfl rfl rfl ?_
 rintro _ _ ⟨u1, u2, u3, rfl, hs4, hs5, rfl⟩
 refine G.stepD (OD.indexAddr rfl et93 rfl (Ent.drop 1 exs) rfl (by omega)) rfl rfl rfl ?_
 refine G.stepD (OD.loadStr rfl ti9 rfl (Ent.drop 1 exs) (by omega)) rfl rfl rfl ?_
 refine G.stepD (OD.assign rfl rfl) rfl rfl rfl ?_
 refine G.nil (GE.then_ (GC.ret ?_))
 exact GE.body [] 0 (res1 rfl rfl) rfl (⟨((u1 : Int).toNat), u2, u3, rfl, (by omega), (by omega), rfl⟩)
set_option maxRecDepth 100000 in
theorem l12Type_w {W : World} {own : List Asn} {gc : Nat} {vb : Value} {bs : List Int} {ci ch : Int}  (sb : IsS vb) (eb : Ent own fun w => Byts w vb bs)  (hci : 0 ≤ ci) (hbl : bs.length ≤ 1048576) : Spec Tryz.prog 94 [.pointer (some ⟨gc, 0, none⟩)] W (box gc 113 [vb, .int .i64 (ci), .int .i64 (ch)] :: own) (fun v ow => ∃ (k0 : Nat) (i0 : Int) (h0 : Int), v = .string (tpNm k0) ∧ (k0 < 19) ∧ (0 ≤ i0) ∧ ow = box gc 113 [vb, .int .i64 (i0), .int .i64 (h0)] :: own) := by
 refine Spec.enter Tryz.f94 _ Tryz.func94 rfl (n := 6) rfl rfl ?_
 refine GC.seq (GC.region ?_)
 refine G.stepD (OD.assign rfl rfl) rfl rfl rfl ?_
 refine G.nil (GE.then_ (GC.seq (GC.region ?_)))
 refine G.stepD (OD.move rfl rfl) rfl rfl rfl ?_
 refine G.step (OG.buildStrs (os := [.const (.string (⟨#[65, 49]⟩)), .const (.string (⟨#[65, 50]⟩)), .const (.string (⟨#[65, 51]⟩)), .const (.string (⟨#[66, 50]⟩)), .const (.string (⟨#[66, 51]⟩)), .const (.string (⟨#[67, 51]⟩)), .const (.string (⟨#[71, 50]⟩)), .const (.string (⟨#[65, 49, 43, 65, 49]⟩)), .const (.string (⟨#[65, 49, 43, 65, 50]⟩)), .const (.string (⟨#[65, 49, 43, 66, 50]⟩)), .const (.string (⟨#[68, 52]⟩)), .const (.string (⟨#[65, 52]⟩)), .const (.string (⟨#[65, 49, 43, 71, 50]⟩)), .const (.string (⟨#[66, 50, 43, 66, 50]⟩)), .const (.string (⟨#[65, 49, 43, 65, 49, 43, 65, 49]⟩)), .const (.string (⟨#[65, 50, 43, 65, 50]⟩)), .const (.string (⟨#[67, 52]⟩)), .const (.string (⟨#[66, 52]⟩)), .const (.string (⟨#[70, 52]⟩))]) (xs := [⟨#[65, 49]⟩, ⟨#[65, 50]⟩, ⟨#[65, 51]⟩, ⟨#[66, 50]⟩, ⟨#[66, 51]⟩, ⟨#[67, 51]⟩, ⟨#[71, 50]⟩, ⟨#[65, 49, 43, 65, 49]⟩, ⟨#[65, 49, 43, 65, 50]⟩, ⟨#[65, 49, 43, 66, 50]⟩, ⟨#[68, 52]⟩, ⟨#[65, 52]⟩, ⟨#[65, 49, 43, 71, 50]⟩, ⟨#[66, 50, 43, 66, 50]⟩, ⟨#[65, 49, 43, 65, 49, 43, 65, 49]⟩, ⟨#[65, 50, 43, 65, 50]⟩, ⟨#[67, 52]⟩, ⟨#[66, 52]⟩, ⟨#[70, 52]⟩]) rfl et93 rfl rfl rfl rfl rfl) rfl rfl rfl ?_
 rintro v1 _ ⟨hs2, rfl⟩
 refine G.at [1] 0 (env' := [(0, .pointer (some ⟨gc, 0, none⟩)), (2, .string (⟨#[]⟩)), (3, .pointer (some ⟨gc, 0, none⟩)), (4, v1)]) ⟨rfl, rfl, rfl, rfl, trivial⟩ (own' := box gc 113 [vb, .int .i64 (ci), .int .i64 (ch)] :: strs 9 v1 ([⟨#[65, 49]⟩, ⟨#[65, 50]⟩, ⟨#[65, 51]⟩, ⟨#[66, 50]⟩, ⟨#[66, 51]⟩, ⟨#[67, 51]⟩, ⟨#[71, 50]⟩, ⟨#[65, 49, 43, 65, 49]⟩, ⟨#[65, 49, 43, 65, 50]⟩, ⟨#[65, 49, 43, 66, 50]⟩, ⟨#[68, 52]⟩, ⟨#[65, 52]⟩, ⟨#[65, 49, 43, 71, 50]⟩, ⟨#[66, 50, 43, 66, 50]⟩, ⟨#[65, 49, 43, 65, 49, 43, 65, 49]⟩, ⟨#[65, 50, 43, 65, 50]⟩, ⟨#[67, 52]⟩, ⟨#[66, 52]⟩, ⟨#[70, 52]⟩]) :: own) rfl ?_
 refine G.step (OG.call [.pointer (some ⟨gc, 0, none⟩), v1] ent130 rfl rfl rfl rfl (by exact (l1Pick_w sb (Ent.drop 1 eb) hs2 (Ent.strs (i := 0) rfl) (by omega) (by omega) (by decide)))) rfl rfl rfl ?_
 rintro _ _ ⟨g3, u4, u5, rfl, hs6, hs7, rfl⟩
 refine G.stepD (OD.assign rfl rfl) rfl rfl rfl ?_
 refine G.nil (GE.then_ (GC.ret ?_))
 exact GE.body [0] 1 (res1 rfl rfl) rfl (⟨(g3), u4, u5, rfl, (by assumption), (by omega), rfl⟩)
set_option maxRecDepth 100000 in
theorem l1New_w {W : World} {own : List Asn} {vcode : Value} {code : List Int}  (scode : IsS vcode) (ecode : Ent own fun w => Byts w vcode code)  (hcl : code.length ≤ 1048576) : Spec Tryz.prog 68 [vcode] W own (fun v ow => ∃ (g0 : Nat) (h0 : Int), v = .pointer (some ⟨g0, 0, none⟩) ∧ ow = box g0 113 [vcode, .int .i64 (0), .int .i64 (h0)] :: own) := by
 refine Spec.enter Tryz.f68 _ Tryz.func68 rfl (n := 32) rfl rfl ?_
 refine GC.seq (GC.region ?_)
 refine G.stepD (OD.assign rfl rfl) rfl rfl rfl ?_
 refine G.nil (GE.then_ (GC.seq (GC.region ?_)))
 refine G.stepD (OD.move rfl rfl) rfl rfl rfl ?_
 refine G.stepD (OD.len rfl rfl et33 rfl ecode) rfl rfl rfl ?_
 refine G.stepD (OD.addI rfl rfl rfl (by omega)) rfl rfl rfl ?_
 refine G.stepD (OD.assign rfl rfl) rfl rfl rfl ?_
 refine G.nil (GE.then_ (GC.seq (GC.seq (GC.region ?_))))
 refine G.stepD (OD.assign rfl rfl) rfl rfl rfl ?_
 refine G.nil (GE.then_ (GC.block ?_))
 refine GC.loop (ι := Nat × Int) (fun ⟨k, h⟩ => [(0, vcode), (3, .int .i64 (h)), (4, .int .i64 ((k : Int)))]) (fun ⟨k, h⟩ => own) (fun ⟨k, h⟩ => (k ≤ code.length)) (fun ⟨k, h⟩ => code.length - k) (0, 124929 + (code.length : Nat)) (by omega) ⟨rfl, rfl, rfl, trivial⟩ [] 0 rfl ?_
 rintro ⟨k, h⟩ hk
 refine GC.seq (GC.seq (GC.region ?_))
 refine G.stepD (OD.move rfl rfl) rfl rfl rfl ?_
 refine G.stepD (OD.move rfl rfl) rfl rfl rfl ?_
 refine G.stepD (OD.len rfl rfl et33 rfl ecode) rfl rfl rfl ?_
 refine G.stepD (OD.lss rfl rfl rfl) rfl rfl rfl ?_
 refine G.stepD (OD.move rfl rfl) rfl rfl rfl ?_
 rcases Bool.eq_false_or_eq_true (decide ((k : Int) < (code.length : Nat))) with hg1 | hg1
 have hg1e := hg1
 refine G.at [] 0 (env' := [(0, vcode), (3, .int .i64 (h)), (4, .int .i64 ((k : Int))), (8, .int .i64 ((k : Int))), (9, vcode), (10, .int .i64 ((code.length : Nat))), (11, .bool true), (12, .bool true)]) (⟨rfl, rfl, rfl, rfl, rfl, rfl, (congrArg (fun b => some (Value.bool b)) hg1e), (congrArg (fun b => some (Value.bool b)) hg1e), trivial⟩) rfl ?_
 replace hg1 := of_decide_eq_true hg1
 refine G.stepGD (OD.move rfl rfl) rfl rfl rfl rfl rfl ?_
 refine G.stepGD (OD.lss rfl rfl rfl) rfl rfl rfl rfl rfl ?_
 refine G.stepD (OD.pickT rfl rfl rfl) rfl rfl rfl ?_
 refine G.nil (GE.then_ ?_)
 refine GC.cond rfl (fun hc2 => ?_) (fun hc2 => ?_)
 replace hc2 := of_decide_eq_true hc2
 refine GC.skip (GE.then_ (GC.seq (GC.block (GC.region ?_))))
 refine G.stepD (OD.move rfl rfl) rfl rfl rfl ?_
 refine G.stepD (OD.mul rfl rfl rfl) rfl rfl rfl ?_
 refine G.stepD (OD.move rfl rfl) rfl rfl rfl ?_
 refine G.stepD (OD.move rfl rfl) rfl rfl rfl ?_
 refine G.stepD (OD.indexAddr rfl et33 rfl ecode rfl (by omega)) rfl rfl rfl ?_
 refine G.stepD (OD.loadByte rfl ti5 rfl ecode (by omega)) rfl rfl rfl ?_
 refine G.stepD (OD.conv rfl cv5_3 rfl) rfl rfl rfl ?_
 refine G.stepD (OD.add rfl rfl rfl) rfl rfl rfl ?_
 refine G.stepD (OD.add rfl rfl rfl) rfl rfl rfl ?_
 refine G.stepD (OD.andB rfl rfl rfl) rfl rfl rfl ?_
 refine G.stepD (OD.assign rfl rfl) rfl rfl rfl ?_
 refine G.nil (GE.blockN (GE.then_ (GC.region ?_)))
 refine G.stepD (OD.move rfl rfl) rfl rfl rfl ?_
 refine G.stepD (OD.addI rfl rfl rfl (by omega)) rfl rfl rfl ?_
 refine G.stepD (OD.assign rfl rfl) rfl rfl rfl ?_
 refine G.nil ?_
 exact GE.again (k + 1, andI (IntKind.i64.wrap ((IntKind.i64.wrap ((IntKind.i64.wrap (h * 131)) + (IntKind.i64.wrap (code.getD (k) 0)))) + 7)) 1073741823) (by omega) (by first | omega | (dsimp only; omega)) ⟨rfl, rfl, rfl, trivial⟩ [] 0 rfl
 replace hc2 := of_decide_eq_false hc2
 refine GC.exit (GE.pass (GE.pass (GE.hit (GE.then_ (GC.seq (GC.region ?_))))))
 refine G.stepD (OD.move rfl rfl) rfl rfl rfl ?_
 refine G.stepD (OD.move rfl rfl) rfl rfl rfl ?_
 refine G.stepD (OD.build (idx := [0, 2]) (xs := [.tmp 28, .tmp 29]) (vs := [vcode, .int .i64 (h)]) (cs := [[vcode], [.int .i64 (h)]]) (zs := [.slice none 0 0, .int .i64 (0), .int .i64 (0)]) (r := [vcode, .int .i64 (0), .int .i64 (h)]) rfl ti113 rfl rfl rfl ⟨(one_cells (IsS.one scode)), ⟨rfl, trivial⟩⟩ rfl) rfl rfl rfl ?_
 refine G.step (OG.box (cs := [vcode, .int .i64 (0), .int .i64 (h)]) rfl rfl rfl) rfl rfl rfl ?_
 rintro _ _ ⟨g3, rfl, rfl⟩
 refine G.stepD (OD.assign rfl rfl) rfl rfl rfl ?_
 refine G.nil (GE.then_ (GC.ret ?_))
 exact GE.body [] 0 (res1 rfl rfl) rfl (⟨g3, h, rfl, rfl⟩)
 have hg1e := hg1
 refine G.at [] 0 (env' := [(0, vcode), (3, .int .i64 (h)), (4, .int .i64 ((k : Int))), (8, .int .i64 ((k : Int))), (9, vcode), (10, .int .i64 ((code.length : Nat))), (11, .bool false), (12, .bool false)]) (⟨rfl, rfl, rfl, rfl, rfl, rfl, (congrArg (fun b => some (Value.bool b)) hg1e), (congrArg (fun b => some (Value.bool b)) hg1e), trivial⟩) rfl ?_
 replace hg1 := of_decide_eq_false hg1
 refine G.skipG rfl rfl rfl rfl rfl rfl (G.skipG rfl rfl rfl rfl rfl rfl ?_)
 refine G.stepD (OD.pickF rfl rfl rfl) rfl rfl rfl ?_
 refine G.nil (GE.then_ (GC.condF rfl (GC.exit (GE.pass (GE.pass (GE.hit (GE.then_ (GC.seq (GC.region ?_)))))))))
 refine G.stepD (OD.move rfl rfl) rfl rfl rfl ?_
 refine G.stepD (OD.move rfl rfl) rfl rfl rfl ?_
 refine G.stepD (OD.build (idx := [0, 2]) (xs := [.tmp 28, .tmp 29]) (vs := [vcode, .int .i64 (h)]) (cs := [[vcode], [.int .i64 (h)]]) (zs := [.slice none 0 0, .int .i64 (0), .int .i64 (0)]) (r := [vcode, .int .i64 (0), .int .i64 (h)]) rfl ti113 rfl rfl rfl ⟨(one_cells (IsS.one scode)), ⟨rfl, trivial⟩⟩ rfl) rfl rfl rfl ?_
 refine G.step (OG.box (cs := [vcode, .int .i64 (0), .int .i64 (h)]) rfl rfl rfl) rfl rfl rfl ?_
 rintro _ _ ⟨g4, rfl, rfl⟩
 refine G.stepD (OD.assign rfl rfl) rfl rfl rfl ?_
 refine G.nil (GE.then_ (GC.ret ?_))
 exact GE.body [] 0 (res1 rfl rfl) rfl (⟨g4, h, rfl, rfl⟩)
set_option maxRecDepth 100000 in
theorem big_w {W : World} {own : List Asn} {vcode : Value} {code : List Int}  (scode : IsS vcode) (ecode : Ent own fun w => Byts w vcode code)  (hl : code.length ≤ 9223372036854775807) : Spec Tryz.prog 19 [vcode] W own (fun v ow => v = .bool (decide (1048576 < (code.length : Int))) ∧ ow = own) := by
 refine Spec.enter Tryz.f19 _ Tryz.func19 rfl (n := 6) rfl rfl ?_
 refine GC.seq (GC.region ?_)
 refine G.stepD (OD.assign rfl rfl) rfl rfl rfl ?_
 refine G.nil (GE.then_ (GC.seq (GC.region ?_)))
 refine G.stepD (OD.move rfl rfl) rfl rfl rfl ?_
 refine G.stepD (OD.len rfl rfl et33 rfl ecode) rfl rfl rfl ?_
 refine G.stepD (OD.gtr rfl rfl rfl) rfl rfl rfl ?_
 refine G.stepD (OD.assign rfl rfl) rfl rfl rfl ?_
 refine G.nil (GE.then_ (GC.ret ?_))
 exact GE.body [] 0 (res1 rfl rfl) rfl (⟨rfl, rfl⟩)
end Go.Proofs.YtgelkakjmbiibaaGreatDoor
