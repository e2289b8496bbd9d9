/-
  The numbers that make a Cartan matrix symmetric, as both texts compute them: told as the work that is left from a place on; that both give the same is checked by the kernel over all Cartan matrices.
-/
import Derived.Test.YtgelkakjmbiibaaGreatDoorCarT
namespace Go.Proofs.YtgelkakjmbiibaaGreatDoor
set_option linter.unusedVariables false
set_option linter.unusedSimpArgs false
abbrev lnV (n : Int) (d o : List Int) (r : Int) (j : Nat) : Int := IntKind.i64.wrap ((IntKind.i64.wrap (o.getD r.toNat 0 * atI n d r j)).tdiv (atI n d j r))
def lsJ (n : Int) (d : List Int) (r : Int) : Nat → Nat → List Int → Option (List Int)
  | 0, _, o => some o
  | m + 1, j, o => if o.getD j 0 == 0 && atI n d r j != 0 then (if atI n d j r == 0 then none else lsJ n d r m (j + 1) (o.set j (lnV n d o r j))) else lsJ n d r m (j + 1) o
def lsM (o : List Int) (r a : Int) : Int := if o.getD r.toNat 0 < a then o.getD r.toNat 0 else a
def lsK (n : Int) (d rows : List Int) : Nat → Nat → List Int → Int → Option (List Int × Int)
  | 0, _, o, a => some (o, a)
  | m + 1, k, o, a => (lsJ n d (rows.getD k 0) n.toNat 0 o).bind fun o2 => lsK n d rows m (k + 1) o2 (lsM o2 (rows.getD k 0) a)
def dvL (p : List Int) (a : Int) : Nat → Nat → List Int → Option (List Int)
  | 0, _, o => some o
  | m + 1, k, o => if a == 0 then none else dvL p a m (k + 1) (o.set (p.getD k 0).toNat (IntKind.i64.wrap ((o.getD (p.getD k 0).toNat 0).tdiv a)))
def lsO (n : Int) (d : List Int) : Nat → Nat → List Int → Option (List Int)
  | 0, _, o => some o
  | m + 1, i, o => if o.getD i 0 != 0 then lsO n d m (i + 1) o else (lsK n d (partF n d i) (partF n d i).length 0 (o.set i 6) 6).bind fun x => (dvL (partF n d i) x.2 (partF n d i).length 0 x.1).bind fun o3 => lsO n d m (i + 1) o3
def lenF (n : Int) (d : List Int) : List Int := (lsO n d n.toNat 0 (List.replicate n.toNat 0)).getD []
def lenOf (n : Int) (d : List Int) : List Int := if (tyS n d).isSome then lenF n d else []
def subR (n : Int) (d rows : List Int) (i : Nat) (o : List Int) (j : Nat) : List Int := o ++ [atI n d (rows.getD i 0) (rows.getD j 0)]
def subD (n : Int) (d rows : List Int) : List Int := (List.range rows.length).foldl (fun (o : List Int) (i : Nat) => (List.range rows.length).foldl (subR n d rows i) o) []
end Go.Proofs.YtgelkakjmbiibaaGreatDoor
