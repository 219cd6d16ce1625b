/- What is proved: the contracts of layer 3 and its reference over both states at once; their answers are alike. Conditions: as in Sock5. -/
import Derived.Test.YtgegpjkihbhndaaDoorAlive3
namespace Go.Proofs.YtgegpjkihbhndaaDoor
open Go.RowKit
set_option linter.unusedVariables false

/-- One call of the script, as it lies in memory. -/
structure OpV where
  k : Int
  e : Int
  n : Int
  v : Value
  m : Nat
  c : Nat
  l : List UInt8
def OpV.cells (o : OpV) : List Value := [.int .i64 o.k, .int .i64 o.e, .int .i64 o.n, o.v]
structure Script3 (w : World) (A : Option Addr) (ops : List OpV) : Prop where
  rd : ∀ (i : Nat) (o : OpV), ops[i]? = some o → ∃ ad, A = some ad ∧ ∀ j u, o.cells[j]? = some u → w.cell? ((ad.add (i * 4)).add j) = some u
  bytes : ∀ (i : Nat) (o : OpV), ops[i]? = some o → Rd w 1 o.v o.m o.c (bv o.l) ∧ o.m ≤ 140737488355322

section
variable {w : World} {R : List Asn} {B : BI} {p q : Nat} {s : SPair} {r : RPair}
theorem rWrite_at (hs : Sep w (base B :: pairA p s :: refA q r :: R)) (hok : r.ok) {A : Option Addr} {m c : Nat} {l : List UInt8} (hr : Rd w 1 (.slice A m c) m c (bv l)) (e : Int) :
    Calls Tryd.prog 13 #[.pointer (some ⟨q, 0, none⟩), .int .i64 e, .slice A m c] w fun x w' => x = .returned (.tuple #[.int .i64 (r.write e l).2.1, .int .i64 (r.write e l).2.2]) ∧ Sep w' (base B :: pairA p s :: refA q (r.write e l).1 :: R) :=
  (rWrite_any (Sep.re (xs := [_, _, _]) hs [0, 2, 1] (by decide) rfl) hok hr e).mono fun x w' h => ⟨h.1, Sep.re (xs := [_, _, _]) h.2 [0, 2, 1] (by decide) rfl⟩
theorem rShut_at (hs : Sep w (base B :: pairA p s :: refA q r :: R)) (e : Int) :
    Calls Tryd.prog 17 #[.pointer (some ⟨q, 0, none⟩), .int .i64 e] w fun x w' => x = .returned (.int .i64 (r.shut e).2) ∧ Sep w' (base B :: pairA p s :: refA q (r.shut e).1 :: R) :=
  (rShut_any (Sep.re (xs := [_, _, _]) hs [0, 2, 1] (by decide) rfl) e).mono fun x w' h => ⟨h.1, Sep.re (xs := [_, _, _]) h.2 [0, 2, 1] (by decide) rfl⟩
theorem rCarry_at (hs : Sep w (base B :: pairA p s :: refA q r :: R)) (hok : r.ok) (e n : Int) :
    Calls Tryd.prog 19 #[.pointer (some ⟨q, 0, none⟩), .int .i64 e, .int .i64 n] w fun x w' => x = .returned (.tuple #[.int .i64 (r.carry e n).2.1, .int .i64 (r.carry e n).2.2]) ∧ Sep w' (base B :: pairA p s :: refA q (r.carry e n).1 :: R) :=
  (rCarry_any (Sep.re (xs := [_, _, _]) hs [0, 2, 1] (by decide) rfl) hok e n).mono fun x w' h => ⟨h.1, Sep.re (xs := [_, _, _]) h.2 [0, 2, 1] (by decide) rfl⟩
theorem rTake_at (hs : Sep w (base B :: pairA p s :: refA q r :: R)) (hok : r.ok) (e n : Int) :
    Calls Tryd.prog 21 #[.pointer (some ⟨q, 0, none⟩), .int .i64 e, .int .i64 n] w fun x w' => ∃ A m c, x = .returned (.tuple #[.slice A m c, .int .i64 (r.read e n).2.2]) ∧ Sep w' (base B :: pairA p s :: refA q (r.read e n).1 :: R) ∧ Rd w' 1 (.slice A m c) m c (bv (r.read e n).2.1) :=
  (rTake_any (Sep.re (xs := [_, _, _]) hs [0, 2, 1] (by decide) rfl) hok e n).mono fun x w' ⟨A, m, c, h1, h2, h3⟩ => ⟨A, m, c, h1, Sep.re (xs := [_, _, _]) h2 [0, 2, 1] (by decide) rfl, h3⟩
theorem rFree_at (hs : Sep w (base B :: pairA p s :: refA q r :: R)) (hok : r.ok) (e : Int) :
    Calls Tryd.prog 25 #[.pointer (some ⟨q, 0, none⟩), .int .i64 e] w fun x w' => x = .returned (.int .i64 (r.freeOf e)) ∧ Sep w' (base B :: pairA p s :: refA q r :: R) :=
  (rFree_any (Sep.re (xs := [_, _, _]) hs [0, 2, 1] (by decide) rfl) hok e).mono fun x w' h => ⟨h.1, Sep.re (xs := [_, _, _]) h.2 [0, 2, 1] (by decide) rfl⟩
theorem rFlight_at (hs : Sep w (base B :: pairA p s :: refA q r :: R)) (hok : r.ok) (e : Int) :
    Calls Tryd.prog 27 #[.pointer (some ⟨q, 0, none⟩), .int .i64 e] w fun x w' => x = .returned (.int .i64 (r.flightOf e)) ∧ Sep w' (base B :: pairA p s :: refA q r :: R) :=
  (rFlight_any (Sep.re (xs := [_, _, _]) hs [0, 2, 1] (by decide) rfl) hok e).mono fun x w' h => ⟨h.1, Sep.re (xs := [_, _, _]) h.2 [0, 2, 1] (by decide) rfl⟩
theorem rInbox_at (hs : Sep w (base B :: pairA p s :: refA q r :: R)) (hok : r.ok) (e : Int) :
    Calls Tryd.prog 29 #[.pointer (some ⟨q, 0, none⟩), .int .i64 e] w fun x w' => x = .returned (.int .i64 (r.inboxOf e)) ∧ Sep w' (base B :: pairA p s :: refA q r :: R) :=
  (rInbox_any (Sep.re (xs := [_, _, _]) hs [0, 2, 1] (by decide) rfl) hok e).mono fun x w' h => ⟨h.1, Sep.re (xs := [_, _, _]) h.2 [0, 2, 1] (by decide) rfl⟩
theorem rEnded_at (hs : Sep w (base B :: pairA p s :: refA q r :: R)) (hok : r.ok) (e : Int) :
    Calls Tryd.prog 31 #[.pointer (some ⟨q, 0, none⟩), .int .i64 e] w fun x w' => x = .returned (.bool (r.endedOf e)) ∧ Sep w' (base B :: pairA p s :: refA q r :: R) :=
  (rEnded_any (Sep.re (xs := [_, _, _]) hs [0, 2, 1] (by decide) rfl) hok e).mono fun x w' h => ⟨h.1, Sep.re (xs := [_, _, _]) h.2 [0, 2, 1] (by decide) rfl⟩
end
theorem SPair.write_err (s : SPair) (e : Int) (l : List UInt8) : (s.write e l).2.2 ≤ 18 := by
  unfold SPair.write; repeat' split
  all_goals (first | decide | simp)
theorem SPair.shut_err (s : SPair) (e : Int) : (s.shut e).2 ≤ 18 := by
  unfold SPair.shut; repeat' split
  all_goals (first | decide | simp)
theorem SPair.carry_err (s : SPair) (e n : Int) : (s.carry e n).2.2 ≤ 18 := by
  unfold SPair.carry; repeat' split
  all_goals (first | decide | simp)
theorem SPair.read_err (s : SPair) (e n : Int) : (s.read e n).2.2 ≤ 18 := by
  unfold SPair.read; repeat' split
  all_goals (first | decide | simp)
end Go.Proofs.YtgegpjkihbhndaaDoor
