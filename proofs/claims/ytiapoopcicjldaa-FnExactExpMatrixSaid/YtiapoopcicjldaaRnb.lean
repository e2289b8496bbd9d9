/-
  What the law on products of square matrices asks; the primes that are drawn; traces and transposed matrices as the code reckons them.
-/
import Derived.Test.YtiapoopcicjldaaRng
namespace Go.Proofs.Ytiapoopcicjldaa
set_option linter.unusedVariables false
set_option linter.unusedSimpArgs false
set_option linter.unusedVariables false
set_option linter.unusedSimpArgs false

theorem cong2 {α β γ : Type} (F : α → β → γ) {a a' : α} {b b' : β} (h1 : a = a') (h2 : b = b') : F a b = F a' b' := by rw [h1, h2]
theorem pr6 {k : Nat} (h : k < 6) : primeB (([2, 3, 5, 7, 11, 101] : List Int).getD k 0) = true ∧ 2 ≤ ([2, 3, 5, 7, 11, 101] : List Int).getD k 0 ∧ ([2, 3, 5, 7, 11, 101] : List Int).getD k 0 ≤ 101 :=
  (by decide +kernel : ∀ k, k < 6 → primeB (([2, 3, 5, 7, 11, 101] : List Int).getD k 0) = true ∧ 2 ≤ ([2, 3, 5, 7, 11, 101] : List Int).getD k 0 ∧ ([2, 3, 5, 7, 11, 101] : List Int).getD k 0 ≤ 101) k h
theorem res_of {p : Int} {d : List Int} (h : Rg p d) : resB d p = true := List.all_eq_true.2 fun x hx => inB_of (h.mem hx).1 (by have := (h.mem hx).2; omega)
theorem matOk_sq {p : Int} {n : Nat} {d : List Int} (hp : primeB p = true) (hn : n ≤ 40) (hl : d.length = n * n) (h : Rg p d) : matOkB ⟨p, n, n, d⟩ = true := by
  simp only [matOkB, Bool.and_eq_true, beq_iff_eq]
  exact ⟨hp, inB_of (by omega) (by omega), inB_of (by omega) (by omega), by rw [hl, Int.natCast_mul], res_of h⟩
/-- The trace as the code reckons it. -/
def trS (n : Int) (d : List Int) (i : Nat) : Int := sumN (fun i => d.getD ((i : Int) * n + (i : Int)).toNat 0) i
def trI (p n : Int) (d : List Int) : Int := trS n d n.toNat % p
theorem trI_eq {p : Int} {n : Nat} {d : List Int} : trI p n d = trN p n d := by
  unfold trI trS trN
  rw [Int.toNat_natCast]
  refine congrArg (· % p) (sumN_congr fun i _ => ?_)
  show _ = d.getD (i * n + i) 0
  rw [idxN2]
theorem trS_bd {p n : Int} {d : List Int} {i : Nat} (hp : p ≤ 10007) (h : Rg p d) : 0 ≤ trS n d i ∧ trS n d i ≤ 10007 * i := sumN_bd fun k _ => by have := h ((k : Int) * n + (k : Int)).toNat; omega
theorem trS_end {p n : Int} {d : List Int} (hp : p ≤ 10007) (h : Rg p d) : (trS n d n.toNat).tmod p = trI p n d := Int.tmod_eq_emod_of_nonneg (trS_bd hp h).1
/-- The transposed matrix as the code writes it. -/
def tpR (r c : Int) (d : List Int) (i : Nat) (o : List Int) (j : Nat) : List Int := o.set ((j : Int) * r + (i : Int)).toNat (d.getD ((i : Int) * c + (j : Int)).toNat 0)
def tpG (r c : Int) (d : List Int) (o : List Int) (i : Nat) : List Int := (List.range c.toNat).foldl (tpR r c d i) o
def tpI (r c : Int) (d : List Int) : List Int := (List.range r.toNat).foldl (tpG r c d) (List.replicate (c * r).toNat 0)
theorem foldl_fun {α : Type} {f g : α → Nat → α} (h : ∀ o i, f o i = g o i) (a : α) (l : List Nat) : l.foldl f a = l.foldl g a := by rw [show f = g from funext fun o => funext fun i => h o i]
theorem tpI_eq {n : Nat} {d : List Int} : tpI n n d = tpF n d := by
  unfold tpI tpF
  rw [Int.toNat_natCast, show ((n : Int) * (n : Int)).toNat = n * n by rw [← Int.natCast_mul, Int.toNat_natCast]]
  refine foldl_fun (fun o i => ?_) _ _
  unfold tpG
  rw [Int.toNat_natCast]
  refine foldl_fun (fun o j => ?_) _ _
  unfold tpR
  rw [idxN2, idxN2]
  try rfl
theorem tpR_len (r c : Int) (d : List Int) (i : Nat) (o : List Int) (j : Nat) : (tpR r c d i o j).length = o.length := by rw [tpR, List.length_set]
theorem tpG_len (r c : Int) (d o : List Int) (i : Nat) : (tpG r c d o i).length = o.length := fold_inv (fun x : List Int => x.length = o.length) _ rfl fun x k _ h => (tpR_len ..).trans h
theorem tpI_len (r c : Int) (d : List Int) : (tpI r c d).length = (c * r).toNat := fold_inv (fun x : List Int => x.length = (c * r).toNat) _ (by simp) fun x k _ h => (tpG_len ..).trans h

structure RgLaw (p : Int) (n : Nat) (a b c : List Int) : Prop where
  oka : matOkB ⟨p, n, n, a⟩ = true
  okb : matOkB ⟨p, n, n, b⟩ = true
  okc : matOkB ⟨p, n, n, c⟩ = true
  okab : matOkB ⟨p, n, n, mulF p n n n a b⟩ = true
  okba : matOkB ⟨p, n, n, mulF p n n n b a⟩ = true
  okbc : matOkB ⟨p, n, n, mulF p n n n b c⟩ = true
  okac : matOkB ⟨p, n, n, mulF p n n n a c⟩ = true
  oks : matOkB ⟨p, n, n, addF 1 p b c⟩ = true
  okta : matOkB ⟨p, n, n, tpI n n a⟩ = true
  oktb : matOkB ⟨p, n, n, tpI n n b⟩ = true
  assoc : samB (mulF p n n n (mulF p n n n a b) c) (mulF p n n n a (mulF p n n n b c)) = true
  dist : samB (mulF p n n n a (addF 1 p b c)) (addF 1 p (mulF p n n n a b) (mulF p n n n a c)) = true
  tr : trI p n (mulF p n n n a b) = trI p n (mulF p n n n b a)
  tp : samB (tpI n n (mulF p n n n a b)) (mulF p n n n (tpI n n b) (tpI n n a)) = true
  small : ∀ d : List Int, (d = mulF p n n n (mulF p n n n a b) c ∨ d = mulF p n n n a (addF 1 p b c) ∨ d = tpI n n (mulF p n n n a b)) → d.length ≤ 1600
theorem rgLaw {p : Int} {n : Nat} {a b c : List Int} (hp : primeB p = true) (hn : n ≤ 40) (hal : a.length = n * n) (hbl : b.length = n * n) (hcl : c.length = n * n) (ha : Rg p a) (hb : Rg p b) (hc : Rg p c) : RgLaw p n a b c := by
  have hr := primeB_range hp
  have hp2 : 0 < p ∧ p ≤ 10007 := by omega
  have M : ∀ {x y : List Int}, Rg p x → Rg p y → Rg p (mulF p n n n x y) := fun hx hy => mulF_rg hp2 hx hy
  have K : ∀ {x y : List Int}, Rg p x → Rg p y → matOkB ⟨p, n, n, mulF p n n n x y⟩ = true := fun hx hy => matOk_sq hp hn mulN_len (M hx hy)
  have hnn : n * n ≤ 1600 := Nat.mul_le_mul hn hn
  refine ⟨matOk_sq hp hn hal ha, matOk_sq hp hn hbl hb, matOk_sq hp hn hcl hc, K ha hb, K hb ha, K hb hc, K ha hc, matOk_sq hp hn (by rw [addF_len]; exact hbl) (addF_rg hp2.1 hb), ?_, ?_, samB_of (mul_assocN hp2 ha hb hc hbl hcl), samB_of (mul_addN hp2 ha hb hc hbl hcl), ?_, samB_of ?_, ?_⟩
  · rw [tpI_eq]
    exact matOk_sq hp hn tpF_len (tpF_rg hp2.1 ha)
  · rw [tpI_eq]
    exact matOk_sq hp hn tpF_len (tpF_rg hp2.1 hb)
  · rw [trI_eq, trI_eq]
    exact tr_mul hp2 ha hb hal hbl
  · rw [tpI_eq, tpI_eq, tpI_eq]
    exact tp_mul hp2 ha hb hal hbl
  · rintro d (rfl | rfl | rfl)
    · rw [mulN_len]; exact hnn
    · rw [mulN_len]; exact hnn
    · rw [tpI_eq, tpF_len]; exact hnn
end Go.Proofs.Ytiapoopcicjldaa
