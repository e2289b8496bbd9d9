/-
  What is drawn: contracts by walks.
-/
import Derived.Test.YtbmnnbglipkidaaGreatDoorFct
import Derived.Test.YtbmnnbglipkidaaGreatDoorWNewA
import Derived.Test.YtbmnnbglipkidaaGreatDoorZ18
import Derived.Test.YtbmnnbglipkidaaGreatDoorZ12
namespace Go.Proofs.YtbmnnbglipkidaaGreatDoor
set_option linter.unusedVariables false
set_option linter.unusedSimpArgs false
open Go.RowKit
theorem ti5 : TI Tryz.prog 5 false 1 (.int .u8 (0)) [] := ⟨fun w => by kernel_rfl, by kernel_rfl, fun h => by cases h⟩
theorem ti33 : TI Tryz.prog 33 false 1 (.slice none 0 0) [] := ⟨fun w => by kernel_rfl, by kernel_rfl, fun h => by cases h⟩
theorem ti111 : TI Tryz.prog 111 true 3 (.agg #[.slice none 0 0, .int .i64 (0), .int .i64 (0)]) [(0, 1), (1, 1), (2, 1)] := ⟨fun w => by kernel_rfl, by kernel_rfl, fun _ => ⟨_, Tryz.underlying111, fun w => by kernel_rfl⟩⟩
theorem et33 : ET Tryz.prog 33 5 1 1 (.int .u8 (0)) := ⟨Tryz.underlying33, by kernel_rfl, rfl, by omega⟩
theorem fa111_0 : ∀ (b k : Nat) w, (Instr.fieldAt 111 (.pointer (some ⟨b, k, none⟩)) 0).run Tryz.prog w = .ok (.pointer (some ⟨b, k + 0, none⟩)) w := fun b k w => by kernel_rfl
theorem fa111_1 : ∀ (b k : Nat) w, (Instr.fieldAt 111 (.pointer (some ⟨b, k, none⟩)) 1).run Tryz.prog w = .ok (.pointer (some ⟨b, k + 1, none⟩)) w := fun b k w => by kernel_rfl
theorem fa111_2 : ∀ (b k : Nat) w, (Instr.fieldAt 111 (.pointer (some ⟨b, k, none⟩)) 2).run Tryz.prog w = .ok (.pointer (some ⟨b, k + 2, none⟩)) w := fun b k w => by kernel_rfl
theorem ent106 : ∀ us w, (callFunc 106 us).run Tryz.prog w = .ok (.enter 106 us) w := fun us w => by kernel_rfl
theorem ent107 : ∀ us w, (callFunc 107 us).run Tryz.prog w = .ok (.enter 107 us) w := fun us w => by kernel_rfl
theorem ent110 : ∀ us w, (callFunc 110 us).run Tryz.prog w = .ok (.enter 110 us) w := fun us w => by kernel_rfl
theorem ent155 : ∀ us w, (callFunc 155 us).run Tryz.prog w = .ok (.enter 155 us) w := fun us w => by kernel_rfl
set_option maxRecDepth 100000 in
theorem l1Byte_w {W : World} {own : List Asn} {gc : Nat} {vb : Value} {bs : List Int} {ci ch : Int}  (sb : IsS vb) (eb : Ent own fun w => Byts w vb bs)  (hci : 0 ≤ ci) (hbl : bs.length ≤ 1048576) : Spec Tryz.prog 155 [.pointer (some ⟨gc, 0, none⟩)] W (box gc 111 [vb, .int .i64 (ci), .int .i64 (ch)] :: own) (fun v ow => ∃ (x0 : Int) (i0 : Int) (h0 : Int), v = .int .i64 x0 ∧ (0 ≤ x0 ∧ x0 ≤ 255) ∧ (0 ≤ i0) ∧ ow = box gc 111 [vb, .int .i64 (i0), .int .i64 (h0)] :: own) := by
 refine Spec.enter Tryz.f155 _ Tryz.func155 rfl (n := 58) rfl rfl ?_
 refine Zs (Zr ?_)
 refine Za rfl rfl rfl rfl rfl ?_
 refine Zn (Zt (Zs (Zr ?_)))
 refine Zm rfl rfl rfl rfl rfl ?_
 refine Zm rfl rfl rfl rfl rfl ?_
 refine G.stepD (OD.nilCheck rfl rfl) rfl rfl rfl ?_
 refine G.stepD (OD.fieldAddr rfl rfl fa111_2) rfl rfl rfl ?_
 refine G.stepD (OD.load rfl ti3 rfl (i := 0) rfl rfl) rfl rfl rfl ?_
 refine G.stepD (OD.mul rfl rfl rfl) rfl rfl rfl ?_
 refine G.stepD (OD.add rfl rfl rfl) rfl rfl rfl ?_
 refine G.stepD (OD.nilCheck rfl rfl) rfl rfl rfl ?_
 refine G.stepD (OD.fieldAddr rfl rfl fa111_2) rfl rfl rfl ?_
 refine G.stepD0 (OD.store rfl ti3 rfl rfl (us := [.int .i64 (IntKind.i64.wrap ((IntKind.i64.wrap (ch * 6364136223846793005)) + 1442695040888963407))]) rfl rfl rfl (i := 0) rfl rfl) rfl rfl ?_
 refine Zn (Zt (Zs ?_))
 refine GC.at [] 0 (env' := [(0, .pointer (some ⟨gc, 0, none⟩))]) ⟨rfl, trivial⟩ rfl ?_
 refine GC.par (its := [Z0 13 (.pointer (some ⟨gc, 0, none⟩)),
     Z1 14 [(0, 13)] (.pointer (some ⟨gc, 0, none⟩)),
     Z1 15 [(1, 14)] (.pointer (some ⟨gc, 2, none⟩)),
     Z1 16 [(2, 15)] (.int .i64 (IntKind.i64.wrap ((IntKind.i64.wrap (ch * 6364136223846793005)) + 1442695040888963407))),
     Z1 17 [(3, 16)] (.int .i64 (shrI (IntKind.i64.wrap ((IntKind.i64.wrap (ch * 6364136223846793005)) + 1442695040888963407)) 33)),
     Z0 18 (.pointer (some ⟨gc, 0, none⟩)),
     Z1 19 [(5, 18)] (.pointer (some ⟨gc, 0, none⟩)),
     Z1 20 [(6, 19)] (.pointer (some ⟨gc, 2, none⟩)),
     Z1 21 [(7, 20)] (.int .i64 (IntKind.i64.wrap ((IntKind.i64.wrap (ch * 6364136223846793005)) + 1442695040888963407))),
     Z1 22 [(8, 21)] (.int .i64 (shrI (IntKind.i64.wrap ((IntKind.i64.wrap (ch * 6364136223846793005)) + 1442695040888963407)) 45)),
     Z1 23 [(4, 17), (9, 22)] (.int .i64 (xorI (shrI (IntKind.i64.wrap ((IntKind.i64.wrap (ch * 6364136223846793005)) + 1442695040888963407)) 33) (shrI (IntKind.i64.wrap ((IntKind.i64.wrap (ch * 6364136223846793005)) + 1442695040888963407)) 45))),
     Z1 24 [(10, 23)] (.int .i64 (andI (xorI (shrI (IntKind.i64.wrap ((IntKind.i64.wrap (ch * 6364136223846793005)) + 1442695040888963407)) 33) (shrI (IntKind.i64.wrap ((IntKind.i64.wrap (ch * 6364136223846793005)) + 1442695040888963407)) 45)) 255))]) (by kernel_rfl) (by kernel_rfl) (POps.cons ?_ (POps.cons ?_ (POps.cons ?_ (POps.cons ?_ (POps.cons ?_ (POps.cons ?_ (POps.cons ?_ (POps.cons ?_ (POps.cons ?_ (POps.cons ?_ (POps.cons ?_ (POps.cons ?_ POps.nil)))))))))))) ?_
 exact fun θ R hd => Zq (OD.move rfl rfl) rfl rfl trivial rfl
 exact fun θ R ⟨h0d, _⟩ => Zq (OD.nilCheck rfl rfl) rfl rfl trivial rfl
 exact fun θ R ⟨h1d, _⟩ => Zq (OD.fieldAddr rfl rfl fa111_2) rfl rfl trivial rfl
 exact fun θ R ⟨h2d, _⟩ => Zq (OD.load rfl ti3 rfl (i := 0) rfl rfl) rfl rfl trivial rfl
 exact fun θ R ⟨h3d, _⟩ => Zq (OD.shr rfl rfl rfl (by decide)) rfl rfl trivial rfl
 exact fun θ R hd => Zq (OD.move rfl rfl) rfl rfl trivial rfl
 exact fun θ R ⟨h5d, _⟩ => Zq (OD.nilCheck rfl rfl) rfl rfl trivial rfl
 exact fun θ R ⟨h6d, _⟩ => Zq (OD.fieldAddr rfl rfl fa111_2) rfl rfl trivial rfl
 exact fun θ R ⟨h7d, _⟩ => Zq (OD.load rfl ti3 rfl (i := 0) rfl rfl) rfl rfl trivial rfl
 exact fun θ R ⟨h8d, _⟩ => Zq (OD.shr rfl rfl rfl (by decide)) rfl rfl trivial rfl
 exact fun θ R ⟨h4d, h9d, _⟩ => Zq (OD.xorB rfl rfl rfl) rfl rfl trivial rfl
 exact fun θ R ⟨h10d, _⟩ => Zq (OD.andB rfl rfl rfl) rfl rfl trivial rfl
 intro θ hall
 obtain ⟨_, _, _, _, _, _, _, _, _, _, _, _, _⟩ := hall
 refine G.at [] 0 (env' := [(0, .pointer (some ⟨gc, 0, none⟩)), (24, .int .i64 (andI (xorI (shrI (IntKind.i64.wrap ((IntKind.i64.wrap (ch * 6364136223846793005)) + 1442695040888963407)) 33) (shrI (IntKind.i64.wrap ((IntKind.i64.wrap (ch * 6364136223846793005)) + 1442695040888963407)) 45)) 255))]) ⟨rfl, rfl, trivial⟩ (own' := box gc 111 [vb, .int .i64 (ci), .int .i64 (IntKind.i64.wrap ((IntKind.i64.wrap (ch * 6364136223846793005)) + 1442695040888963407))] :: own) rfl ?_
 show G _ _ _ [_] _ _ _ _
 refine Za rfl rfl rfl rfl rfl ?_
 refine Zn (Zt (Zs (Zs ?_)))
 refine GC.at [] 0 (env' := [(0, .pointer (some ⟨gc, 0, none⟩)), (3, .int .i64 (andI (xorI (shrI (IntKind.i64.wrap ((IntKind.i64.wrap (ch * 6364136223846793005)) + 1442695040888963407)) 33) (shrI (IntKind.i64.wrap ((IntKind.i64.wrap (ch * 6364136223846793005)) + 1442695040888963407)) 45)) 255))]) ⟨rfl, rfl, trivial⟩ rfl ?_
 refine GC.par (its := [Z0 25 (.pointer (some ⟨gc, 0, none⟩)),
     Z1 26 [(0, 25)] (.pointer (some ⟨gc, 0, none⟩)),
     Z1 27 [(1, 26)] (.pointer (some ⟨gc, 1, none⟩)),
     Z1 28 [(2, 27)] (.int .i64 (ci)),
     Z0 29 (.pointer (some ⟨gc, 0, none⟩)),
     Z1 30 [(4, 29)] (.pointer (some ⟨gc, 0, none⟩)),
     Z1 31 [(5, 30)] (.pointer (some ⟨gc, 0, none⟩)),
     Z1 32 [(6, 31)] vb,
     Z1 33 [(7, 32)] (.int .i64 ((bs.length : Nat))),
     Z1 34 [(3, 28), (8, 33)] (.bool (decide (ci < (bs.length : Nat))))]) (by kernel_rfl) (by kernel_rfl) (POps.cons ?_ (POps.cons ?_ (POps.cons ?_ (POps.cons ?_ (POps.cons ?_ (POps.cons ?_ (POps.cons ?_ (POps.cons ?_ (POps.cons ?_ (POps.cons ?_ POps.nil)))))))))) ?_
 exact fun θ R hd => Zq (OD.move rfl rfl) rfl rfl trivial rfl
 exact fun θ R ⟨h0d, _⟩ => Zq (OD.nilCheck rfl rfl) rfl rfl trivial rfl
 exact fun θ R ⟨h1d, _⟩ => Zq (OD.fieldAddr rfl rfl fa111_1) rfl rfl trivial rfl
 exact fun θ R ⟨h2d, _⟩ => Zq (OD.load rfl ti3 rfl (i := 0) rfl rfl) rfl rfl trivial rfl
 exact fun θ R hd => Zq (OD.move rfl rfl) rfl rfl trivial rfl
 exact fun θ R ⟨h4d, _⟩ => Zq (OD.nilCheck rfl rfl) rfl rfl trivial rfl
 exact fun θ R ⟨h5d, _⟩ => Zq (OD.fieldAddr rfl rfl fa111_0) rfl rfl trivial rfl
 exact fun θ R ⟨h6d, _⟩ => Zq (OD.load rfl ti33 rfl (i := 0) rfl rfl) rfl rfl trivial rfl
 exact fun θ R ⟨h7d, _⟩ => Zq (OD.len rfl rfl et33 rfl (Ent.drop 1 eb.app)) rfl rfl trivial rfl
 exact fun θ R ⟨h3d, h8d, _⟩ => Zq (OD.lss rfl rfl rfl) rfl rfl trivial rfl
 intro θ hall
 obtain ⟨_, _, _, _, _, _, _, _, _, _, _⟩ := hall
 refine G.at [] 0 (env' := [(0, .pointer (some ⟨gc, 0, none⟩)), (3, .int .i64 (andI (xorI (shrI (IntKind.i64.wrap ((IntKind.i64.wrap (ch * 6364136223846793005)) + 1442695040888963407)) 33) (shrI (IntKind.i64.wrap ((IntKind.i64.wrap (ch * 6364136223846793005)) + 1442695040888963407)) 45)) 255)), (34, .bool (decide (ci < (bs.length : Nat))))]) ⟨rfl,rfl,rfl,trivial⟩ (own' := box gc 111 [vb, .int .i64 (ci), .int .i64 (IntKind.i64.wrap ((IntKind.i64.wrap (ch * 6364136223846793005)) + 1442695040888963407))] :: own) rfl ?_
 show G _ _ _ [] _ _ _ _
 refine Zn (Zt ?_)
 refine GC.cond rfl (fun hc1 => ?_) (fun hc1 => ?_)
 replace hc1 := of_decide_eq_true hc1
 refine Zs ?_
 refine GC.at [] 0 (env' := [(0, .pointer (some ⟨gc, 0, none⟩)), (3, .int .i64 (andI (xorI (shrI (IntKind.i64.wrap ((IntKind.i64.wrap (ch * 6364136223846793005)) + 1442695040888963407)) 33) (shrI (IntKind.i64.wrap ((IntKind.i64.wrap (ch * 6364136223846793005)) + 1442695040888963407)) 45)) 255))]) ⟨rfl, rfl, trivial⟩ rfl ?_
 refine GC.par (its := [Z0 35 (.int .i64 (andI (xorI (shrI (IntKind.i64.wrap ((IntKind.i64.wrap (ch * 6364136223846793005)) + 1442695040888963407)) 33) (shrI (IntKind.i64.wrap ((IntKind.i64.wrap (ch * 6364136223846793005)) + 1442695040888963407)) 45)) 255)),
     Z0 36 (.pointer (some ⟨gc, 0, none⟩)),
     Z1 37 [(1, 36)] (.pointer (some ⟨gc, 0, none⟩)),
     Z1 38 [(2, 37)] (.pointer (some ⟨gc, 0, none⟩)),
     Z1 39 [(3, 38)] vb,
     Z0 40 (.pointer (some ⟨gc, 0, none⟩)),
     Z1 41 [(5, 40)] (.pointer (some ⟨gc, 0, none⟩)),
     Z1 42 [(6, 41)] (.pointer (some ⟨gc, 1, none⟩)),
     Z1 43 [(7, 42)] (.int .i64 (ci)),
     Z1 44 [(4, 39), (8, 43)] (elemPtr vb 1 ((ci : Int).toNat)),
     Z1 45 [(9, 44)] (.int .u8 (bs.getD ((ci : Int).toNat) 0)),
     Z1 46 [(10, 45)] (.int .i64 (IntKind.i64.wrap (bs.getD ((ci : Int).toNat) 0))),
     Z1 47 [(0, 35), (11, 46)] (.int .i64 (IntKind.i64.wrap ((andI (xorI (shrI (IntKind.i64.wrap ((IntKind.i64.wrap (ch * 6364136223846793005)) + 1442695040888963407)) 33) (shrI (IntKind.i64.wrap ((IntKind.i64.wrap (ch * 6364136223846793005)) + 1442695040888963407)) 45)) 255) + (IntKind.i64.wrap (bs.getD ((ci : Int).toNat) 0))))),
     Z1 48 [(12, 47)] (.int .i64 (andI (IntKind.i64.wrap ((andI (xorI (shrI (IntKind.i64.wrap ((IntKind.i64.wrap (ch * 6364136223846793005)) + 1442695040888963407)) 33) (shrI (IntKind.i64.wrap ((IntKind.i64.wrap (ch * 6364136223846793005)) + 1442695040888963407)) 45)) 255) + (IntKind.i64.wrap (bs.getD ((ci : Int).toNat) 0)))) 255))]) (by kernel_rfl) (by kernel_rfl) (POps.cons ?_ (POps.cons ?_ (POps.cons ?_ (POps.cons ?_ (POps.cons ?_ (POps.cons ?_ (POps.cons ?_ (POps.cons ?_ (POps.cons ?_ (POps.cons ?_ (POps.cons ?_ (POps.cons ?_ (POps.cons ?_ (POps.cons ?_ POps.nil)))))))))))))) ?_
 exact fun θ R hd => Zq (OD.move rfl rfl) rfl rfl trivial rfl
 exact fun θ R hd => Zq (OD.move rfl rfl) rfl rfl trivial rfl
 exact fun θ R ⟨h1d, _⟩ => Zq (OD.nilCheck rfl rfl) rfl rfl trivial rfl
 exact fun θ R ⟨h2d, _⟩ => Zq (OD.fieldAddr rfl rfl fa111_0) rfl rfl trivial rfl
 exact fun θ R ⟨h3d, _⟩ => Zq (OD.load rfl ti33 rfl (i := 0) rfl rfl) rfl rfl trivial rfl
 exact fun θ R hd => Zq (OD.move rfl rfl) rfl rfl trivial rfl
 exact fun θ R ⟨h5d, _⟩ => Zq (OD.nilCheck rfl rfl) rfl rfl trivial rfl
 exact fun θ R ⟨h6d, _⟩ => Zq (OD.fieldAddr rfl rfl fa111_1) rfl rfl trivial rfl
 exact fun θ R ⟨h7d, _⟩ => Zq (OD.load rfl ti3 rfl (i := 0) rfl rfl) rfl rfl trivial rfl
 exact fun θ R ⟨h4d, h8d, _⟩ => Zq (OD.indexAddr rfl et33 rfl (Ent.drop 1 eb.app) rfl (by omega)) rfl rfl trivial rfl
 exact fun θ R ⟨h9d, _⟩ => Zq (OD.loadByte rfl ti5 rfl (Ent.drop 1 eb.app) (by omega)) rfl rfl trivial rfl
 exact fun θ R ⟨h10d, _⟩ => Zq (OD.conv rfl cv5_3 rfl) rfl rfl trivial rfl
 exact fun θ R ⟨h0d, h11d, _⟩ => Zq (OD.add rfl rfl rfl) rfl rfl trivial rfl
 exact fun θ R ⟨h12d, _⟩ => Zq (OD.andB rfl rfl rfl) rfl rfl trivial rfl
 intro θ hall
 obtain ⟨_, _, _, _, _, _, _, _, _, _, _, _, _, _, _⟩ := hall
 refine G.at [] 0 (env' := [(0, .pointer (some ⟨gc, 0, none⟩)), (3, .int .i64 (andI (xorI (shrI (IntKind.i64.wrap ((IntKind.i64.wrap (ch * 6364136223846793005)) + 1442695040888963407)) 33) (shrI (IntKind.i64.wrap ((IntKind.i64.wrap (ch * 6364136223846793005)) + 1442695040888963407)) 45)) 255)), (48, .int .i64 (andI (IntKind.i64.wrap ((andI (xorI (shrI (IntKind.i64.wrap ((IntKind.i64.wrap (ch * 6364136223846793005)) + 1442695040888963407)) 33) (shrI (IntKind.i64.wrap ((IntKind.i64.wrap (ch * 6364136223846793005)) + 1442695040888963407)) 45)) 255) + (IntKind.i64.wrap (bs.getD ((ci : Int).toNat) 0)))) 255))]) ⟨rfl,rfl,rfl,trivial⟩ (own' := box gc 111 [vb, .int .i64 (ci), .int .i64 (IntKind.i64.wrap ((IntKind.i64.wrap (ch * 6364136223846793005)) + 1442695040888963407))] :: own) rfl ?_
 show G _ _ _ [_] _ _ _ _
 refine Za rfl rfl rfl rfl rfl ?_
 refine Zn (Zt (Zr ?_))
 refine Zm rfl rfl rfl rfl rfl ?_
 refine Zm rfl rfl rfl rfl rfl ?_
 refine G.stepD (OD.nilCheck rfl rfl) rfl rfl rfl ?_
 refine G.stepD (OD.fieldAddr rfl rfl fa111_1) rfl rfl rfl ?_
 refine G.stepD (OD.load rfl ti3 rfl (i := 0) rfl rfl) rfl rfl rfl ?_
 refine G.stepD (OD.addI rfl rfl rfl (by omega)) rfl rfl rfl ?_
 refine G.stepD (OD.nilCheck rfl rfl) rfl rfl rfl ?_
 refine G.stepD (OD.fieldAddr rfl rfl fa111_1) rfl rfl rfl ?_
 refine G.stepD0 (OD.store rfl ti3 rfl rfl (us := [.int .i64 (ci + 1)]) rfl rfl rfl (i := 0) rfl rfl) rfl rfl ?_
 refine Zn (Zt (Zs (Zr ?_)))
 refine Zm rfl rfl rfl rfl rfl ?_
 refine Za rfl rfl rfl rfl rfl ?_
 refine Zn (Zt (GC.ret ?_))
 exact GE.body [] 0 (res1 rfl rfl) rfl (⟨(andI (IntKind.i64.wrap ((andI (xorI (shrI (IntKind.i64.wrap ((IntKind.i64.wrap (ch * 6364136223846793005)) + 1442695040888963407)) 33) (shrI (IntKind.i64.wrap ((IntKind.i64.wrap (ch * 6364136223846793005)) + 1442695040888963407)) 45)) 255) + (IntKind.i64.wrap (bs.getD ((ci : Int).toNat) 0)))) 255), ci + 1, IntKind.i64.wrap ((IntKind.i64.wrap (ch * 6364136223846793005)) + 1442695040888963407), rfl, (andI_255 _), (by omega), rfl⟩)
 replace hc1 := of_decide_eq_false hc1
 refine Zk (Zt (Zs (Zr ?_)))
 refine Zm rfl rfl rfl rfl rfl ?_
 refine Za rfl rfl rfl rfl rfl ?_
 refine Zn (Zt (GC.ret ?_))
 exact GE.body [] 0 (res1 rfl rfl) rfl (⟨(andI (xorI (shrI (IntKind.i64.wrap ((IntKind.i64.wrap (ch * 6364136223846793005)) + 1442695040888963407)) 33) (shrI (IntKind.i64.wrap ((IntKind.i64.wrap (ch * 6364136223846793005)) + 1442695040888963407)) 45)) 255), ci, IntKind.i64.wrap ((IntKind.i64.wrap (ch * 6364136223846793005)) + 1442695040888963407), rfl, (andI_255 _), (by omega), rfl⟩)
set_option maxRecDepth 100000 in
theorem l1Below_w {W : World} {own : List Asn} {gc : Nat} {vb : Value} {bs : List Int} {ci ch : Int} {n : Int}  (sb : IsS vb) (eb : Ent own fun w => Byts w vb bs)   (hci : 0 ≤ ci) (hbl : bs.length ≤ 1048576) (hn : 1 ≤ n ∧ n ≤ 256) : Spec Tryz.prog 107 [.pointer (some ⟨gc, 0, none⟩), .int .i64 (n)] W (box gc 111 [vb, .int .i64 (ci), .int .i64 (ch)] :: own) (fun v ow => ∃ (x0 : Int) (i0 : Int) (h0 : Int), v = .int .i64 x0 ∧ (0 ≤ x0 ∧ x0 < n) ∧ (0 ≤ i0) ∧ ow = box gc 111 [vb, .int .i64 (i0), .int .i64 (h0)] :: own) := by
 refine Spec.enter Tryz.f107 _ Tryz.func107 rfl (n := 37) rfl rfl ?_
 refine Zs (Zr ?_)
 refine Za rfl rfl rfl rfl rfl ?_
 refine Zn (Zt (Zs (Zs (Zr ?_))))
 refine Zm rfl rfl rfl rfl rfl ?_
 refine G.stepD (OD.leq rfl rfl rfl) rfl rfl rfl ?_
 refine Zn (Zt ?_)
 refine GC.cond rfl (fun hc1 => ?_) (fun hc1 => ?_)
 replace hc1 := of_decide_eq_true hc1
 exfalso; omega
 replace hc1 := of_decide_eq_false hc1
 refine Zk (Zt (Zs (Zs (Zr ?_))))
 refine Zm rfl rfl rfl rfl rfl ?_
 refine G.stepD (OD.leq rfl rfl rfl) rfl rfl rfl ?_
 refine Zn (Zt ?_)
 refine GC.cond rfl (fun hc2 => ?_) (fun hc2 => ?_)
 replace hc2 := of_decide_eq_true hc2
 refine Zs (Zr ?_)
 refine Zm rfl rfl rfl rfl rfl ?_
 refine G.step (OG.call [.pointer (some ⟨gc, 0, none⟩)] ent155 rfl rfl rfl rfl (by exact (l1Byte_w sb eb (by omega) (by omega)))) rfl rfl rfl ?_
 rintro _ _ ⟨u3, u4, u5, rfl, hs6, hs7, rfl⟩
 refine Zm rfl rfl rfl rfl rfl ?_
 refine G.stepD (OD.rem rfl rfl rfl (by omega)) rfl rfl rfl ?_
 refine Za rfl rfl rfl rfl rfl ?_
 refine Zn (Zt (GC.ret (GE.passR ?_)))
 exact GE.body [] 0 (res1 rfl rfl) rfl (⟨((u3).tmod n), u4, u5, rfl, (tmod_rng (by omega) (by omega)), (by omega), rfl⟩)
 replace hc2 := of_decide_eq_false hc2
 exfalso; omega
set_option maxRecDepth 100000 in
theorem l1Once_w {W : World} {own : List Asn} {gc : Nat} {vb : Value} {bs : List Int} {ci ch : Int} {n : Int}  (sb : IsS vb) (eb : Ent own fun w => Byts w vb bs)   (hci : 0 ≤ ci) (hbl : bs.length ≤ 1048576) (hn : 1 ≤ n ∧ n ≤ 256) : Spec Tryz.prog 110 [.pointer (some ⟨gc, 0, none⟩), .int .i64 (n)] W (box gc 111 [vb, .int .i64 (ci), .int .i64 (ch)] :: own) (fun v ow => ∃ (b0 : Bool) (i0 : Int) (h0 : Int), v = .bool b0 ∧ (0 ≤ i0) ∧ ow = box gc 111 [vb, .int .i64 (i0), .int .i64 (h0)] :: own) := by
 refine Spec.enter Tryz.f110 _ Tryz.func110 rfl (n := 9) rfl rfl ?_
 refine Zs (Zr ?_)
 refine Za rfl rfl rfl rfl rfl ?_
 refine Zn (Zt (Zs (Zr ?_)))
 refine Zm rfl rfl rfl rfl rfl ?_
 refine Zm rfl rfl rfl rfl rfl ?_
 refine G.step (OG.call [.pointer (some ⟨gc, 0, none⟩), .int .i64 (n)] ent107 rfl rfl rfl rfl (by exact (l1Below_w sb eb (by omega) (by omega) (by omega)))) rfl rfl rfl ?_
 rintro _ _ ⟨u1, u2, u3, rfl, hs4, hs5, rfl⟩
 refine G.stepD (OD.eql rfl rfl rfl) rfl rfl rfl ?_
 refine Za rfl rfl rfl rfl rfl ?_
 refine Zn (Zt (GC.ret ?_))
 exact GE.body [] 0 (res1 rfl rfl) rfl (⟨(u1 == 0), u2, u3, rfl, (by omega), rfl⟩)
set_option maxRecDepth 100000 in
theorem l1Pick_w {W : World} {own : List Asn} {gc : Nat} {vb : Value} {bs : List Int} {ci ch : Int} {vxs : Value} {xs : List ByteArray}  (sb : IsS vb) (eb : Ent own fun w => Byts w vb bs)   (sxs : IsS vxs) (exs : Ent own fun w => Strs w vxs xs)  (hci : 0 ≤ ci) (hbl : bs.length ≤ 1048576) (hn : 1 ≤ xs.length ∧ xs.length ≤ 256) : Spec Tryz.prog 106 [.pointer (some ⟨gc, 0, none⟩), vxs] W (box gc 111 [vb, .int .i64 (ci), .int .i64 (ch)] :: own) (fun v ow => ∃ (k0 : Nat) (i0 : Int) (h0 : Int), v = .string (xs.getD k0 ⟨#[]⟩) ∧ (k0 < xs.length) ∧ (0 ≤ i0) ∧ ow = box gc 111 [vb, .int .i64 (i0), .int .i64 (h0)] :: own) := by
 refine Spec.enter Tryz.f106 _ Tryz.func106 rfl (n := 12) rfl rfl ?_
 refine Zs (Zr ?_)
 refine Za rfl rfl rfl rfl rfl ?_
 refine Zn (Zt (Zs (Zr ?_)))
 refine Zm rfl rfl rfl rfl rfl ?_
 refine Zm rfl rfl rfl rfl rfl ?_
 refine Zm rfl rfl rfl rfl rfl ?_
 refine G.stepD (OD.len rfl rfl et113 rfl (Ent.drop 1 exs)) rfl rfl rfl ?_
 refine G.step (OG.call [.pointer (some ⟨gc, 0, none⟩), .int .i64 ((xs.length : Nat))] ent107 rfl rfl rfl rfl (by exact (l1Below_w sb eb (by omega) (by omega) (by omega)))) rfl rfl rfl ?_
 rintro _ _ ⟨u1, u2, u3, rfl, hs4, hs5, rfl⟩
 refine G.stepD (OD.indexAddr rfl et113 rfl (Ent.drop 1 exs) rfl (by omega)) rfl rfl rfl ?_
 refine G.stepD (OD.loadStr rfl ti9 rfl (Ent.drop 1 exs) (by omega)) rfl rfl rfl ?_
 refine Za rfl rfl rfl rfl rfl ?_
 refine Zn (Zt (GC.ret ?_))
 exact GE.body [] 0 (res1 rfl rfl) rfl (⟨((u1 : Int).toNat), u2, u3, rfl, (by omega), (by omega), rfl⟩)
set_option maxRecDepth 100000 in
theorem l12Type_w {W : World} {own : List Asn} {gc : Nat} {vb : Value} {bs : List Int} {ci ch : Int}  (sb : IsS vb) (eb : Ent own fun w => Byts w vb bs)  (hci : 0 ≤ ci) (hbl : bs.length ≤ 1048576) : Spec Tryz.prog 44 [.pointer (some ⟨gc, 0, none⟩)] W (box gc 111 [vb, .int .i64 (ci), .int .i64 (ch)] :: own) (fun v ow => ∃ (k0 : Nat) (i0 : Int) (h0 : Int), v = .string (tpNm k0) ∧ (k0 < 19) ∧ (0 ≤ i0) ∧ ow = box gc 111 [vb, .int .i64 (i0), .int .i64 (h0)] :: own) := by
 refine Spec.enter Tryz.f44 _ Tryz.func44 rfl (n := 6) rfl rfl ?_
 refine Zs (Zr ?_)
 refine Za rfl rfl rfl rfl rfl ?_
 refine Zn (Zt (Zs (Zr ?_)))
 refine Zm rfl rfl rfl rfl rfl ?_
 refine G.step (OG.buildStrs (os := [.const (.string (⟨#[65, 49]⟩)), .const (.string (⟨#[65, 50]⟩)), .const (.string (⟨#[65, 51]⟩)), .const (.string (⟨#[66, 50]⟩)), .const (.string (⟨#[66, 51]⟩)), .const (.string (⟨#[67, 51]⟩)), .const (.string (⟨#[71, 50]⟩)), .const (.string (⟨#[65, 49, 43, 65, 49]⟩)), .const (.string (⟨#[65, 49, 43, 65, 50]⟩)), .const (.string (⟨#[65, 49, 43, 66, 50]⟩)), .const (.string (⟨#[68, 52]⟩)), .const (.string (⟨#[65, 52]⟩)), .const (.string (⟨#[65, 49, 43, 71, 50]⟩)), .const (.string (⟨#[66, 50, 43, 66, 50]⟩)), .const (.string (⟨#[65, 49, 43, 65, 49, 43, 65, 49]⟩)), .const (.string (⟨#[65, 50, 43, 65, 50]⟩)), .const (.string (⟨#[67, 52]⟩)), .const (.string (⟨#[66, 52]⟩)), .const (.string (⟨#[70, 52]⟩))]) (xs := [⟨#[65, 49]⟩, ⟨#[65, 50]⟩, ⟨#[65, 51]⟩, ⟨#[66, 50]⟩, ⟨#[66, 51]⟩, ⟨#[67, 51]⟩, ⟨#[71, 50]⟩, ⟨#[65, 49, 43, 65, 49]⟩, ⟨#[65, 49, 43, 65, 50]⟩, ⟨#[65, 49, 43, 66, 50]⟩, ⟨#[68, 52]⟩, ⟨#[65, 52]⟩, ⟨#[65, 49, 43, 71, 50]⟩, ⟨#[66, 50, 43, 66, 50]⟩, ⟨#[65, 49, 43, 65, 49, 43, 65, 49]⟩, ⟨#[65, 50, 43, 65, 50]⟩, ⟨#[67, 52]⟩, ⟨#[66, 52]⟩, ⟨#[70, 52]⟩]) rfl et113 rfl rfl rfl rfl rfl) rfl rfl rfl ?_
 rintro v1 _ ⟨hs2, rfl⟩
 refine G.at [1] 0 (env' := [(0, .pointer (some ⟨gc, 0, none⟩)), (2, .string (⟨#[]⟩)), (3, .pointer (some ⟨gc, 0, none⟩)), (4, v1)]) ⟨rfl,rfl,rfl,rfl,trivial⟩ (own' := box gc 111 [vb, .int .i64 (ci), .int .i64 (ch)] :: strs 9 v1 ([⟨#[65, 49]⟩, ⟨#[65, 50]⟩, ⟨#[65, 51]⟩, ⟨#[66, 50]⟩, ⟨#[66, 51]⟩, ⟨#[67, 51]⟩, ⟨#[71, 50]⟩, ⟨#[65, 49, 43, 65, 49]⟩, ⟨#[65, 49, 43, 65, 50]⟩, ⟨#[65, 49, 43, 66, 50]⟩, ⟨#[68, 52]⟩, ⟨#[65, 52]⟩, ⟨#[65, 49, 43, 71, 50]⟩, ⟨#[66, 50, 43, 66, 50]⟩, ⟨#[65, 49, 43, 65, 49, 43, 65, 49]⟩, ⟨#[65, 50, 43, 65, 50]⟩, ⟨#[67, 52]⟩, ⟨#[66, 52]⟩, ⟨#[70, 52]⟩]) :: own) rfl ?_
 refine G.step (OG.call [.pointer (some ⟨gc, 0, none⟩), v1] ent106 rfl rfl rfl rfl (by exact (l1Pick_w sb (Ent.drop 1 eb) hs2 (Ent.strs (i := 0) rfl) (by omega) (by omega) (by decide)))) rfl rfl rfl ?_
 rintro _ _ ⟨g3, u4, u5, rfl, hs6, hs7, rfl⟩
 refine Za rfl rfl rfl rfl rfl ?_
 refine Zn (Zt (GC.ret ?_))
 exact GE.body [0] 1 (res1 rfl rfl) rfl (⟨(g3), u4, u5, rfl, (by assumption), (by omega), rfl⟩)
set_option maxRecDepth 100000 in
theorem l12List_w {W : World} {own : List Asn} {gc : Nat} {vb : Value} {bs : List Int} {ci ch : Int} {n : Int} {m : Int}  (sb : IsS vb) (eb : Ent own fun w => Byts w vb bs)   (hci : 0 ≤ ci) (hbl : bs.length ≤ 1048576) (hnn : 0 ≤ n ∧ n ≤ 1000) (hbe : 1 ≤ m ∧ m ≤ 256) : Spec Tryz.prog 48 [.pointer (some ⟨gc, 0, none⟩), .int .i64 (n), .int .i64 (m)] W (box gc 111 [vb, .int .i64 (ci), .int .i64 (ch)] :: own) (fun v ow => ∃ (v0 : Value) (xs0 : List Int) (i0 : Int) (h0 : Int), v = v0 ∧ IsS v0 ∧ (xs0.length = (n : Int).toNat) ∧ (∀ y ∈ xs0, 0 ≤ y ∧ y < m) ∧ (0 ≤ i0) ∧ ow = ints 3 v0 xs0 :: box gc 111 [vb, .int .i64 (i0), .int .i64 (h0)] :: own) := by
 refine Spec.enter Tryz.f48 _ Tryz.func48 rfl (n := 26) rfl rfl ?_
 refine Zs (Zr ?_)
 refine Za rfl rfl rfl rfl rfl ?_
 refine Zn (Zt (Zs (Zr ?_)))
 refine G.step (OG.buildInts (xs := []) (is := []) rfl et22 rfl rfl rfl rfl rfl) rfl rfl rfl ?_
 rintro v1 _ ⟨hs2, rfl⟩
 refine Za rfl rfl rfl rfl rfl ?_
 refine Zn (Zt (Zs (Zs (Zr ?_))))
 refine Za rfl rfl rfl rfl rfl ?_
 refine Zn (Zt (GC.block ?_))
 refine GC.loop (ι := Nat × List Int × Value × Int × Int) (fun ⟨k, ys, v, q, r⟩ => [(0, .pointer (some ⟨gc, 0, none⟩)), (1, .int .i64 (n)), (2, .int .i64 (m)), (7, v), (8, .int .i64 ((k : Int)))]) (fun ⟨k, ys, v, q, r⟩ => ints 3 v ys :: box gc 111 [vb, .int .i64 (q), .int .i64 (r)] :: own) (fun ⟨k, ys, v, q, r⟩ => ((k : Int) ≤ n) ∧ (ys.length = k) ∧ (∀ y ∈ ys, 0 ≤ y ∧ y < m) ∧ (IsS v) ∧ (0 ≤ q)) (fun ⟨k, ys, v, q, r⟩ => n.toNat - k) (0, [], v1, ci, ch) (⟨by omega, rfl, by simp, hs2, by omega⟩) ⟨rfl,rfl,rfl,rfl,rfl,trivial⟩ [] 0 rfl ?_
 rintro ⟨k, ys, v, q, r⟩ ⟨hk, hyl, hyb, hv, hq⟩
 refine Zs (Zs (Zr ?_))
 refine Zm rfl rfl rfl rfl rfl ?_
 refine Zm rfl rfl rfl rfl rfl ?_
 refine G.stepD (OD.lss rfl rfl rfl) rfl rfl rfl ?_
 refine Zn (Zt ?_)
 refine GC.cond rfl (fun hc3 => ?_) (fun hc3 => ?_)
 replace hc3 := of_decide_eq_true hc3
 refine Zk (Zt (Zs (GC.block (Zs (Zr ?_)))))
 refine Zm rfl rfl rfl rfl rfl ?_
 refine Zm rfl rfl rfl rfl rfl ?_
 refine G.at [1] 0 (env' := [(0, .pointer (some ⟨gc, 0, none⟩)), (1, .int .i64 (n)), (2, .int .i64 (m)), (7, v), (8, .int .i64 ((k : Int))), (11, .int .i64 ((k : Int))), (12, .int .i64 (n)), (13, .bool (decide ((k : Int) < n))), (16, .pointer (some ⟨gc, 0, none⟩)), (17, .int .i64 (m))]) ⟨rfl,rfl,rfl,rfl,rfl,rfl,rfl,rfl,rfl,rfl,trivial⟩ (own' := box gc 111 [vb, .int .i64 (q), .int .i64 (r)] :: ints 3 v ys :: own) rfl ?_
 refine G.step (OG.call [.pointer (some ⟨gc, 0, none⟩), .int .i64 (m)] ent107 rfl rfl rfl rfl (by exact (l1Below_w sb (Ent.drop 1 eb) (by omega) (by omega) (by omega)))) rfl rfl rfl ?_
 rintro _ _ ⟨u4, u5, u6, rfl, hs7, hs8, rfl⟩
 refine Za rfl rfl rfl rfl rfl ?_
 refine Zn (Zt (Zs (Zs (Zr ?_))))
 refine Zm rfl rfl rfl rfl rfl ?_
 refine G.step (OG.call [.pointer (some ⟨gc, 0, none⟩), .int .i64 (3)] ent110 rfl rfl rfl rfl (by exact (l1Once_w sb (Ent.drop 1 eb) (by omega) (by omega) (by omega)))) rfl rfl rfl ?_
 rintro _ _ ⟨u9, u10, u11, rfl, hs12, rfl⟩
 refine Zn (Zt ?_)
 refine GC.cond rfl (fun hc13 => ?_) (fun hc13 => ?_)
 refine Zr ?_
 refine Za rfl rfl rfl rfl rfl ?_
 refine Zn (Zt (Zr ?_))
 refine Zm rfl rfl rfl rfl rfl ?_
 refine Zm rfl rfl rfl rfl rfl ?_
 refine G.step (OG.buildInts (xs := [.tmp 22]) (is := [0]) rfl et22 rfl rfl rfl rfl rfl) rfl rfl rfl ?_
 rintro v14 _ ⟨hs15, rfl⟩
 refine G.step (OG.appendInts 2 rfl rfl et22 rfl rfl rfl (Ent.ints (i := 0) rfl) (by first | omega | (simp; omega))) rfl rfl rfl ?_
 rintro v16 _ ⟨hs17, rfl⟩
 refine Za rfl rfl rfl rfl rfl ?_
 refine Zn (GE.blockN (Zt (Zr ?_)))
 refine Zm rfl rfl rfl rfl rfl ?_
 refine G.stepD (OD.addI rfl rfl rfl (by omega)) rfl rfl rfl ?_
 refine Za rfl rfl rfl rfl rfl ?_
 refine Zn ?_
 exact GE.again (k + 1, ys ++ [0], v16, u10, u11) (⟨by omega, by rw [List.length_append, hyl]; rfl, fun y hy => (List.mem_append.1 hy).elim (hyb y) (fun e => by rw [List.mem_singleton.1 e]; omega), hs17, by omega⟩) (by first | omega | (dsimp only; omega)) ⟨rfl,rfl,rfl,rfl,rfl,trivial⟩ [2, 1] 1 rfl
 refine Zk (Zt (Zr ?_))
 refine Zm rfl rfl rfl rfl rfl ?_
 refine Zm rfl rfl rfl rfl rfl ?_
 refine G.step (OG.buildInts (xs := [.tmp 22]) (is := [u4]) rfl et22 rfl rfl rfl rfl rfl) rfl rfl rfl ?_
 rintro v18 _ ⟨hs19, rfl⟩
 refine G.step (OG.appendInts 2 rfl rfl et22 rfl rfl rfl (Ent.ints (i := 0) rfl) (by first | omega | (simp; omega))) rfl rfl rfl ?_
 rintro v20 _ ⟨hs21, rfl⟩
 refine Za rfl rfl rfl rfl rfl ?_
 refine Zn (GE.blockN (Zt (Zr ?_)))
 refine Zm rfl rfl rfl rfl rfl ?_
 refine G.stepD (OD.addI rfl rfl rfl (by omega)) rfl rfl rfl ?_
 refine Za rfl rfl rfl rfl rfl ?_
 refine Zn ?_
 exact GE.again (k + 1, ys ++ [u4], v20, u10, u11) (⟨by omega, by rw [List.length_append, hyl]; rfl, fun y hy => (List.mem_append.1 hy).elim (hyb y) (fun e => by rw [List.mem_singleton.1 e]; omega), hs21, by omega⟩) (by first | omega | (dsimp only; omega)) ⟨rfl,rfl,rfl,rfl,rfl,trivial⟩ [2, 1] 1 rfl
 replace hc3 := of_decide_eq_false hc3
 refine GC.exit (Zp (Zp (GE.hit (Zt (Zs (Zr ?_))))))
 refine Zm rfl rfl rfl rfl rfl ?_
 refine Za rfl rfl rfl rfl rfl ?_
 refine Zn (Zt (GC.ret ?_))
 exact GE.body [] 0 (res1 rfl rfl) rfl (⟨v, ys, q, r, rfl, (hv), (by omega), (hyb), (by omega), rfl⟩)
theorem l12List_w_c {W : World} {own : List Asn} {i : Nat} {gc : Nat} {vb : Value} {bs : List Int} {n : Int} {m : Int} (hcu : own[i]? = some (curA gc 111 vb)) (sb : IsS vb) (eb : Ent (own.eraseIdx i) fun w => Byts w vb bs) (hbl : bs.length ≤ 1048576) (hnn : 0 ≤ n ∧ n ≤ 1000) (hbe : 1 ≤ m ∧ m ≤ 256) : Spec Tryz.prog 48 [.pointer (some ⟨gc, 0, none⟩), .int .i64 (n), .int .i64 (m)] W own (fun v ow => ∃ (v0 : Value) (xs0 : List Int), v = v0 ∧ IsS v0 ∧ (xs0.length = (n : Int).toNat) ∧ (∀ y ∈ xs0, 0 ≤ y ∧ y < m) ∧ ow = ints 3 v0 xs0 :: own) := fun w hst => by
  obtain ⟨ci, ch, hci, hs2⟩ := hst.curAt hcu
  refine (l12List_w sb eb hci hbl hnn hbe w hs2).mono ?_
  rintro e w2 ⟨v, ow, he, ⟨v0, xs0, i0, h0, hv, a0, a1, a2, a3, rfl⟩, hs⟩
  exact ⟨_, _, he, ⟨v0, xs0, hv, a0, a1, a2, rfl⟩, hs.curBack [ints 3 v0 xs0] hcu a3⟩
set_option maxRecDepth 100000 in
theorem l1New_w {W : World} {own : List Asn} {vcode : Value} {code : List Int}  (scode : IsS vcode) (ecode : Ent own fun w => Byts w vcode code)  (hcl : code.length ≤ 1048576) : Spec Tryz.prog 42 [vcode] W own (fun v ow => ∃ (g0 : Nat) (h0 : Int), v = .pointer (some ⟨g0, 0, none⟩) ∧ ow = box g0 111 [vcode, .int .i64 (0), .int .i64 (h0)] :: own) := by
 refine Spec.enter Tryz.f42 _ Tryz.func42 rfl (n := 32) rfl rfl ?_
 refine Zs (Zr ?_)
 refine Za rfl rfl rfl rfl rfl ?_
 refine Zn (Zt (Zs (Zr ?_)))
 refine Zm rfl rfl rfl rfl rfl ?_
 refine G.stepD (OD.len rfl rfl et33 rfl ecode) rfl rfl rfl ?_
 refine G.stepD (OD.addI rfl rfl rfl (by omega)) rfl rfl rfl ?_
 refine Za rfl rfl rfl rfl rfl ?_
 refine Zn (Zt (Zs (Zs (Zr ?_))))
 refine Za rfl rfl rfl rfl rfl ?_
 refine Zn (Zt (GC.block ?_))
 refine GC.loop (ι := Nat × Int) (fun ⟨k, h⟩ => [(0, vcode), (3, .int .i64 (h)), (4, .int .i64 ((k : Int)))]) (fun ⟨k, h⟩ => own) (fun ⟨k, h⟩ => (k ≤ code.length)) (fun ⟨k, h⟩ => code.length - k) (0, 124929 + (code.length : Nat)) (by omega) ⟨rfl,rfl,rfl,trivial⟩ [] 0 rfl ?_
 rintro ⟨k, h⟩ hk
 refine Zs (Zs (Zr ?_))
 refine Zm rfl rfl rfl rfl rfl ?_
 refine Zm rfl rfl rfl rfl rfl ?_
 refine G.stepD (OD.len rfl rfl et33 rfl ecode) rfl rfl rfl ?_
 refine G.stepD (OD.lss rfl rfl rfl) rfl rfl rfl ?_
 refine Zm rfl rfl rfl rfl rfl ?_
 rcases Bool.eq_false_or_eq_true (decide ((k : Int) < (code.length : Nat))) with hg1 | hg1
 have hg1e := hg1
 refine G.at [] 0 (env' := [(0, vcode), (3, .int .i64 (h)), (4, .int .i64 ((k : Int))), (8, .int .i64 ((k : Int))), (9, vcode), (10, .int .i64 ((code.length : Nat))), (11, .bool true), (12, .bool true)]) (⟨rfl, rfl, rfl, rfl, rfl, rfl, (congrArg (fun b => some (Value.bool b)) hg1e), (congrArg (fun b => some (Value.bool b)) hg1e), trivial⟩) rfl ?_
 replace hg1 := of_decide_eq_true hg1
 refine G.stepGD (OD.move rfl rfl) rfl rfl rfl rfl rfl ?_
 refine G.stepGD (OD.lss rfl rfl rfl) rfl rfl rfl rfl rfl ?_
 refine G.stepD (OD.pickT rfl rfl rfl) rfl rfl rfl ?_
 refine Zn (Zt ?_)
 refine GC.cond rfl (fun hc2 => ?_) (fun hc2 => ?_)
 replace hc2 := of_decide_eq_true hc2
 refine Zk (Zt (Zs (GC.block (Zr ?_))))
 refine Zm rfl rfl rfl rfl rfl ?_
 refine G.stepD (OD.mul rfl rfl rfl) rfl rfl rfl ?_
 refine Zm rfl rfl rfl rfl rfl ?_
 refine Zm rfl rfl rfl rfl rfl ?_
 refine G.stepD (OD.indexAddr rfl et33 rfl ecode rfl (by omega)) rfl rfl rfl ?_
 refine G.stepD (OD.loadByte rfl ti5 rfl ecode (by omega)) rfl rfl rfl ?_
 refine G.stepD (OD.conv rfl cv5_3 rfl) rfl rfl rfl ?_
 refine G.stepD (OD.add rfl rfl rfl) rfl rfl rfl ?_
 refine G.stepD (OD.add rfl rfl rfl) rfl rfl rfl ?_
 refine G.stepD (OD.andB rfl rfl rfl) rfl rfl rfl ?_
 refine Za rfl rfl rfl rfl rfl ?_
 refine Zn (GE.blockN (Zt (Zr ?_)))
 refine Zm rfl rfl rfl rfl rfl ?_
 refine G.stepD (OD.addI rfl rfl rfl (by omega)) rfl rfl rfl ?_
 refine Za rfl rfl rfl rfl rfl ?_
 refine Zn ?_
 exact GE.again (k + 1, andI (IntKind.i64.wrap ((IntKind.i64.wrap ((IntKind.i64.wrap (h * 131)) + (IntKind.i64.wrap (code.getD (k) 0)))) + 7)) 1073741823) (by omega) (by first | omega | (dsimp only; omega)) ⟨rfl,rfl,rfl,trivial⟩ [] 0 rfl
 replace hc2 := of_decide_eq_false hc2
 refine GC.exit (Zp (Zp (GE.hit (Zt (Zs (Zr ?_))))))
 refine Zm rfl rfl rfl rfl rfl ?_
 refine Zm rfl rfl rfl rfl rfl ?_
 refine G.stepD (OD.build (idx := [0, 2]) (xs := [.tmp 28, .tmp 29]) (vs := [vcode, .int .i64 (h)]) (cs := [[vcode], [.int .i64 (h)]]) (zs := [.slice none 0 0, .int .i64 (0), .int .i64 (0)]) (r := [vcode, .int .i64 (0), .int .i64 (h)]) rfl ti111 rfl rfl rfl ⟨(one_cells (IsS.one scode)), ⟨rfl, trivial⟩⟩ rfl) rfl rfl rfl ?_
 refine G.step (OG.box (cs := [vcode, .int .i64 (0), .int .i64 (h)]) rfl rfl rfl) rfl rfl rfl ?_
 rintro _ _ ⟨g3, rfl, rfl⟩
 refine Za rfl rfl rfl rfl rfl ?_
 refine Zn (Zt (GC.ret ?_))
 exact GE.body [] 0 (res1 rfl rfl) rfl (⟨g3, h, rfl, rfl⟩)
 have hg1e := hg1
 refine G.at [] 0 (env' := [(0, vcode), (3, .int .i64 (h)), (4, .int .i64 ((k : Int))), (8, .int .i64 ((k : Int))), (9, vcode), (10, .int .i64 ((code.length : Nat))), (11, .bool false), (12, .bool false)]) (⟨rfl, rfl, rfl, rfl, rfl, rfl, (congrArg (fun b => some (Value.bool b)) hg1e), (congrArg (fun b => some (Value.bool b)) hg1e), trivial⟩) rfl ?_
 replace hg1 := of_decide_eq_false hg1
 refine G.skipG rfl rfl rfl rfl rfl rfl (G.skipG rfl rfl rfl rfl rfl rfl ?_)
 refine G.stepD (OD.pickF rfl rfl rfl) rfl rfl rfl ?_
 refine Zn (Zt (GC.condF rfl (GC.exit (Zp (Zp (GE.hit (Zt (Zs (Zr ?_)))))))))
 refine Zm rfl rfl rfl rfl rfl ?_
 refine Zm rfl rfl rfl rfl rfl ?_
 refine G.stepD (OD.build (idx := [0, 2]) (xs := [.tmp 28, .tmp 29]) (vs := [vcode, .int .i64 (h)]) (cs := [[vcode], [.int .i64 (h)]]) (zs := [.slice none 0 0, .int .i64 (0), .int .i64 (0)]) (r := [vcode, .int .i64 (0), .int .i64 (h)]) rfl ti111 rfl rfl rfl ⟨(one_cells (IsS.one scode)), ⟨rfl, trivial⟩⟩ rfl) rfl rfl rfl ?_
 refine G.step (OG.box (cs := [vcode, .int .i64 (0), .int .i64 (h)]) rfl rfl rfl) rfl rfl rfl ?_
 rintro _ _ ⟨g4, rfl, rfl⟩
 refine Za rfl rfl rfl rfl rfl ?_
 refine Zn (Zt (GC.ret ?_))
 exact GE.body [] 0 (res1 rfl rfl) rfl (⟨g4, h, rfl, rfl⟩)
set_option maxRecDepth 100000 in
theorem big_w {W : World} {own : List Asn} {vcode : Value} {code : List Int}  (scode : IsS vcode) (ecode : Ent own fun w => Byts w vcode code)  (hl : code.length ≤ 9223372036854775807) : Spec Tryz.prog 15 [vcode] W own (fun v ow => v = .bool (decide (1048576 < (code.length : Int))) ∧ ow = own) := by
 refine Spec.enter Tryz.f15 _ Tryz.func15 rfl (n := 6) rfl rfl ?_
 refine Zs (Zr ?_)
 refine Za rfl rfl rfl rfl rfl ?_
 refine Zn (Zt (Zs (Zr ?_)))
 refine Zm rfl rfl rfl rfl rfl ?_
 refine G.stepD (OD.len rfl rfl et33 rfl ecode) rfl rfl rfl ?_
 refine G.stepD (OD.gtr rfl rfl rfl) rfl rfl rfl ?_
 refine Za rfl rfl rfl rfl rfl ?_
 refine Zn (Zt (GC.ret ?_))
 exact GE.body [] 0 (res1 rfl rfl) rfl (⟨rfl, rfl⟩)
end Go.Proofs.YtbmnnbglipkidaaGreatDoor
