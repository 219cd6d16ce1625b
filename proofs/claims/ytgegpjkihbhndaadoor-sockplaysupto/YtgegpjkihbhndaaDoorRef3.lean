/- What is proved: what each function of the reference of layer 3 computes. Conditions: its memory is as 'refA' says. -/
import Derived.Test.YtgegpjkihbhndaaDoorBase
import Derived.Handy
namespace Go.Proofs.YtgegpjkihbhndaaDoor
open Go.RowKit
set_option linter.unusedVariables false

theorem natbeq (a b : Nat) : ((a : Int) == (b : Int)) = (a == b) := by rw [Bool.eq_iff_iff]; simp; omega

structure RWay where
  all : List UInt8
  car : Nat
  rd : Nat
  sh : Bool
structure RPair where
  room : Nat
  a : RWay
  b : RWay
  cut : Bool
def RWay.ok (w : RWay) (room : Nat) : Prop := w.rd ≤ w.car ∧ w.car ≤ w.all.length ∧ w.all.length ≤ w.rd + room ∧ w.all.length ≤ 1099511627776
def RPair.ok (r : RPair) : Prop := r.room ≤ 65536 ∧ r.a.ok r.room ∧ r.b.ok r.room

/-- The reference's pair in memory. -/
def refA (q : Nat) (r : RPair) : Asn :=
  .ex fun A0 : Option Addr => .ex fun A1 : Option Addr => .ex fun c0 : Nat => .ex fun c1 : Nat => .all [Blk q 35 #[.int .i64 r.room, .slice A0 r.a.all.length c0, .int .i64 r.a.car, .int .i64 r.a.rd, .bool r.a.sh, .slice A1 r.b.all.length c1, .int .i64 r.b.car, .int .i64 r.b.rd, .bool r.b.sh, .bool r.cut], OwnB (.slice A0 r.a.all.length c0) r.a.all, OwnB (.slice A1 r.b.all.length c1) r.b.all]

section
variable {w : World} {B : BI} {q : Nat} {r : RPair} {R : List Asn} {A0 A1 : Option Addr} {c0 c1 : Nat}
theorem ref_open (h : Sep w (base B :: refA q r :: R)) : ∃ A0 A1 c0 c1, Sep w (base B :: Blk q 35 #[.int .i64 r.room, .slice A0 r.a.all.length c0, .int .i64 r.a.car, .int .i64 r.a.rd, .bool r.a.sh, .slice A1 r.b.all.length c1, .int .i64 r.b.car, .int .i64 r.b.rd, .bool r.b.sh, .bool r.cut] :: OwnB (.slice A0 r.a.all.length c0) r.a.all :: OwnB (.slice A1 r.b.all.length c1) r.b.all :: R) := by
  obtain ⟨A0, A1, c0, c1, h⟩ : ∃ A0 A1 c0 c1, Sep w (Asn.all _ :: base B :: R) := by
    obtain ⟨A0, h⟩ := h.swap.of_ex; obtain ⟨A1, h⟩ := h.of_ex; obtain ⟨c0, h⟩ := h.of_ex; obtain ⟨c1, h⟩ := h.of_ex
    exact ⟨A0, A1, c0, c1, h⟩
  exact ⟨A0, A1, c0, c1, h.of_all.f3⟩
theorem ref_close (h : Sep w (base B :: Blk q 35 #[.int .i64 r.room, .slice A0 r.a.all.length c0, .int .i64 r.a.car, .int .i64 r.a.rd, .bool r.a.sh, .slice A1 r.b.all.length c1, .int .i64 r.b.car, .int .i64 r.b.rd, .bool r.b.sh, .bool r.cut] :: OwnB (.slice A0 r.a.all.length c0) r.a.all :: OwnB (.slice A1 r.b.all.length c1) r.b.all :: R)) : Sep w (base B :: refA q r :: R) := by
  have h2 : Sep w ([Blk q 35 #[.int .i64 r.room, .slice A0 r.a.all.length c0, .int .i64 r.a.car, .int .i64 r.a.rd, .bool r.a.sh, .slice A1 r.b.all.length c1, .int .i64 r.b.car, .int .i64 r.b.rd, .bool r.b.sh, .bool r.cut], OwnB (.slice A0 r.a.all.length c0) r.a.all, OwnB (.slice A1 r.b.all.length c1) r.b.all] ++ (base B :: R)) := h.u3
  exact (Sep.to_ex A0 (Sep.to_ex A1 (Sep.to_ex c0 (Sep.to_ex c1 h2.to_all)))).swap
end


set_option maxHeartbeats 1600000 in
set_option maxRecDepth 100000 in
theorem rWrite_no {w : World} {R : List Asn} {B : BI} {q : Nat} {r : RPair} (hs : Sep w (base B :: refA q r :: R)) (sv : Value) (e : Int) (h0 : (e == 0) = false) (h1 : (e == 1) = false) :
    Calls Tryd.prog 13 #[.pointer (some ⟨q, 0, none⟩), .int .i64 e, sv] w fun x w' => x = .returned (.tuple #[.int .i64 0, .int .i64 1]) ∧ Sep w' (base B :: refA q r :: R) := by
  have hs0 := hs
  obtain ⟨room, ⟨a0, r0, d0, s0⟩, ⟨a1, r1, d1, s1⟩, cut⟩ := r
  obtain ⟨A0, A1, c0, c1, h⟩ := ref_open hs
  dsimp only at *
  obtain ⟨hc, hf⟩ := h.swap.cells
  clear h
  go_enter Tryd.func13, Tryd.ntmps13
  go_wp2_with (go_at_call 48; go_in)
  go_ret2
  exact ⟨rfl, hs0⟩


set_option maxHeartbeats 1600000 in
set_option maxRecDepth 100000 in
theorem rWrite_cut0 {w : World} {R : List Asn} {B : BI} {q : Nat} {r : RPair} (hs : Sep w (base B :: refA q r :: R)) (sv : Value)  (hcut : r.cut = true) :
    Calls Tryd.prog 13 #[.pointer (some ⟨q, 0, none⟩), .int .i64 0, sv] w fun x w' => x = .returned (.tuple #[.int .i64 0, .int .i64 5]) ∧ Sep w' (base B :: refA q r :: R) := by
  have hs0 := hs
  obtain ⟨room, ⟨a0, r0, d0, s0⟩, ⟨a1, r1, d1, s1⟩, cut⟩ := r
  obtain ⟨A0, A1, c0, c1, h⟩ := ref_open hs
  dsimp only at *
  subst hcut
  obtain ⟨hc, hf⟩ := h.swap.cells
  clear h
  go_enter Tryd.func13, Tryd.ntmps13
  go_wp2_with (go_at_call 48; go_in)
  go_ret2
  exact ⟨rfl, hs0⟩


set_option maxHeartbeats 1600000 in
set_option maxRecDepth 100000 in
theorem rWrite_shut0 {w : World} {R : List Asn} {B : BI} {q : Nat} {r : RPair} (hs : Sep w (base B :: refA q r :: R)) (sv : Value)  (hcut : r.cut = false) (hsh : r.a.sh = true) :
    Calls Tryd.prog 13 #[.pointer (some ⟨q, 0, none⟩), .int .i64 0, sv] w fun x w' => x = .returned (.tuple #[.int .i64 0, .int .i64 17]) ∧ Sep w' (base B :: refA q r :: R) := by
  have hs0 := hs
  obtain ⟨room, ⟨a0, r0, d0, s0⟩, ⟨a1, r1, d1, s1⟩, cut⟩ := r
  obtain ⟨A0, A1, c0, c1, h⟩ := ref_open hs
  dsimp only at *
  subst hcut; subst hsh
  obtain ⟨hc, hf⟩ := h.swap.cells
  clear h
  go_enter Tryd.func13, Tryd.ntmps13
  go_wp2_with (go_at_call 48; go_in)
  go_ret2
  exact ⟨rfl, hs0⟩


set_option maxHeartbeats 1600000 in
set_option maxRecDepth 100000 in
theorem rWrite_cut1 {w : World} {R : List Asn} {B : BI} {q : Nat} {r : RPair} (hs : Sep w (base B :: refA q r :: R)) (sv : Value)  (hcut : r.cut = true) :
    Calls Tryd.prog 13 #[.pointer (some ⟨q, 0, none⟩), .int .i64 1, sv] w fun x w' => x = .returned (.tuple #[.int .i64 0, .int .i64 5]) ∧ Sep w' (base B :: refA q r :: R) := by
  have hs0 := hs
  obtain ⟨room, ⟨a0, r0, d0, s0⟩, ⟨a1, r1, d1, s1⟩, cut⟩ := r
  obtain ⟨A0, A1, c0, c1, h⟩ := ref_open hs
  dsimp only at *
  subst hcut
  obtain ⟨hc, hf⟩ := h.swap.cells
  clear h
  go_enter Tryd.func13, Tryd.ntmps13
  go_wp2_with (go_at_call 48; go_in)
  go_ret2
  exact ⟨rfl, hs0⟩


set_option maxHeartbeats 1600000 in
set_option maxRecDepth 100000 in
theorem rWrite_shut1 {w : World} {R : List Asn} {B : BI} {q : Nat} {r : RPair} (hs : Sep w (base B :: refA q r :: R)) (sv : Value)  (hcut : r.cut = false) (hsh : r.b.sh = true) :
    Calls Tryd.prog 13 #[.pointer (some ⟨q, 0, none⟩), .int .i64 1, sv] w fun x w' => x = .returned (.tuple #[.int .i64 0, .int .i64 17]) ∧ Sep w' (base B :: refA q r :: R) := by
  have hs0 := hs
  obtain ⟨room, ⟨a0, r0, d0, s0⟩, ⟨a1, r1, d1, s1⟩, cut⟩ := r
  obtain ⟨A0, A1, c0, c1, h⟩ := ref_open hs
  dsimp only at *
  subst hcut; subst hsh
  obtain ⟨hc, hf⟩ := h.swap.cells
  clear h
  go_enter Tryd.func13, Tryd.ntmps13
  go_wp2_with (go_at_call 48; go_in)
  go_ret2
  exact ⟨rfl, hs0⟩


set_option maxHeartbeats 1600000 in
set_option maxRecDepth 100000 in
theorem rCarry_no {w : World} {R : List Asn} {B : BI} {q : Nat} {r : RPair} (hs : Sep w (base B :: refA q r :: R)) (n : Int) (e : Int) (h0 : (e == 0) = false) (h1 : (e == 1) = false) :
    Calls Tryd.prog 19 #[.pointer (some ⟨q, 0, none⟩), .int .i64 e, .int .i64 n] w fun x w' => x = .returned (.tuple #[.int .i64 0, .int .i64 1]) ∧ Sep w' (base B :: refA q r :: R) := by
  have hs0 := hs
  obtain ⟨room, ⟨a0, r0, d0, s0⟩, ⟨a1, r1, d1, s1⟩, cut⟩ := r
  obtain ⟨A0, A1, c0, c1, h⟩ := ref_open hs
  dsimp only at *
  obtain ⟨hc, hf⟩ := h.swap.cells
  clear h
  go_enter Tryd.func19, Tryd.ntmps19
  go_wp2_with (go_at_call 48; go_in)
  go_ret2
  exact ⟨rfl, hs0⟩


set_option maxHeartbeats 1600000 in
set_option maxRecDepth 100000 in
theorem rCarry_cut0 {w : World} {R : List Asn} {B : BI} {q : Nat} {r : RPair} (hs : Sep w (base B :: refA q r :: R)) (n : Int)  (hcut : r.cut = true) (hn : 0 ≤ n) :
    Calls Tryd.prog 19 #[.pointer (some ⟨q, 0, none⟩), .int .i64 0, .int .i64 n] w fun x w' => x = .returned (.tuple #[.int .i64 0, .int .i64 5]) ∧ Sep w' (base B :: refA q r :: R) := by
  have hs0 := hs
  obtain ⟨room, ⟨a0, r0, d0, s0⟩, ⟨a1, r1, d1, s1⟩, cut⟩ := r
  obtain ⟨A0, A1, c0, c1, h⟩ := ref_open hs
  dsimp only at *
  subst hcut
  obtain ⟨hc, hf⟩ := h.swap.cells
  clear h
  go_enter Tryd.func19, Tryd.ntmps19
  go_wp2_with (go_at_call 48; go_in)
  go_ret2
  exact ⟨rfl, hs0⟩


set_option maxHeartbeats 1600000 in
set_option maxRecDepth 100000 in
theorem rCarry_neg0 {w : World} {R : List Asn} {B : BI} {q : Nat} {r : RPair} (hs : Sep w (base B :: refA q r :: R)) (n : Int)  (hn : n < 0) :
    Calls Tryd.prog 19 #[.pointer (some ⟨q, 0, none⟩), .int .i64 0, .int .i64 n] w fun x w' => x = .returned (.tuple #[.int .i64 0, .int .i64 1]) ∧ Sep w' (base B :: refA q r :: R) := by
  have hs0 := hs
  obtain ⟨room, ⟨a0, r0, d0, s0⟩, ⟨a1, r1, d1, s1⟩, cut⟩ := r
  obtain ⟨A0, A1, c0, c1, h⟩ := ref_open hs
  dsimp only at *
  obtain ⟨hc, hf⟩ := h.swap.cells
  clear h
  go_enter Tryd.func19, Tryd.ntmps19
  go_wp2_with (go_at_call 48; go_in)
  go_ret2
  exact ⟨rfl, hs0⟩


set_option maxHeartbeats 1600000 in
set_option maxRecDepth 100000 in
theorem rCarry_cut1 {w : World} {R : List Asn} {B : BI} {q : Nat} {r : RPair} (hs : Sep w (base B :: refA q r :: R)) (n : Int)  (hcut : r.cut = true) (hn : 0 ≤ n) :
    Calls Tryd.prog 19 #[.pointer (some ⟨q, 0, none⟩), .int .i64 1, .int .i64 n] w fun x w' => x = .returned (.tuple #[.int .i64 0, .int .i64 5]) ∧ Sep w' (base B :: refA q r :: R) := by
  have hs0 := hs
  obtain ⟨room, ⟨a0, r0, d0, s0⟩, ⟨a1, r1, d1, s1⟩, cut⟩ := r
  obtain ⟨A0, A1, c0, c1, h⟩ := ref_open hs
  dsimp only at *
  subst hcut
  obtain ⟨hc, hf⟩ := h.swap.cells
  clear h
  go_enter Tryd.func19, Tryd.ntmps19
  go_wp2_with (go_at_call 48; go_in)
  go_ret2
  exact ⟨rfl, hs0⟩


set_option maxHeartbeats 1600000 in
set_option maxRecDepth 100000 in
theorem rCarry_neg1 {w : World} {R : List Asn} {B : BI} {q : Nat} {r : RPair} (hs : Sep w (base B :: refA q r :: R)) (n : Int)  (hn : n < 0) :
    Calls Tryd.prog 19 #[.pointer (some ⟨q, 0, none⟩), .int .i64 1, .int .i64 n] w fun x w' => x = .returned (.tuple #[.int .i64 0, .int .i64 1]) ∧ Sep w' (base B :: refA q r :: R) := by
  have hs0 := hs
  obtain ⟨room, ⟨a0, r0, d0, s0⟩, ⟨a1, r1, d1, s1⟩, cut⟩ := r
  obtain ⟨A0, A1, c0, c1, h⟩ := ref_open hs
  dsimp only at *
  obtain ⟨hc, hf⟩ := h.swap.cells
  clear h
  go_enter Tryd.func19, Tryd.ntmps19
  go_wp2_with (go_at_call 48; go_in)
  go_ret2
  exact ⟨rfl, hs0⟩


set_option maxHeartbeats 1600000 in
set_option maxRecDepth 100000 in
theorem rTake_no {w : World} {R : List Asn} {B : BI} {q : Nat} {r : RPair} (hs : Sep w (base B :: refA q r :: R)) (n : Int) (e : Int) (h0 : (e == 0) = false) (h1 : (e == 1) = false) :
    Calls Tryd.prog 21 #[.pointer (some ⟨q, 0, none⟩), .int .i64 e, .int .i64 n] w fun x w' => x = .returned (.tuple #[.slice none 0 0, .int .i64 1]) ∧ Sep w' (base B :: refA q r :: R) := by
  have hs0 := hs
  obtain ⟨room, ⟨a0, r0, d0, s0⟩, ⟨a1, r1, d1, s1⟩, cut⟩ := r
  obtain ⟨A0, A1, c0, c1, h⟩ := ref_open hs
  dsimp only at *
  obtain ⟨hc, hf⟩ := h.swap.cells
  clear h
  go_enter Tryd.func21, Tryd.ntmps21
  go_wp2_with (go_at_call 48; go_in)
  go_ret2
  exact ⟨rfl, hs0⟩


set_option maxHeartbeats 1600000 in
set_option maxRecDepth 100000 in
theorem rTake_cut0 {w : World} {R : List Asn} {B : BI} {q : Nat} {r : RPair} (hs : Sep w (base B :: refA q r :: R)) (n : Int)  (hcut : r.cut = true) (hrd : r.b.rd = r.b.car) (hn : 0 ≤ n) :
    Calls Tryd.prog 21 #[.pointer (some ⟨q, 0, none⟩), .int .i64 0, .int .i64 n] w fun x w' => x = .returned (.tuple #[.slice none 0 0, .int .i64 5]) ∧ Sep w' (base B :: refA q r :: R) := by
  have hs0 := hs
  obtain ⟨room, ⟨a0, r0, d0, s0⟩, ⟨a1, r1, d1, s1⟩, cut⟩ := r
  obtain ⟨A0, A1, c0, c1, h⟩ := ref_open hs
  dsimp only at *
  subst hcut; subst hrd
  obtain ⟨hc, hf⟩ := h.swap.cells
  clear h
  go_enter Tryd.func21, Tryd.ntmps21
  go_wp2_with (go_at_call 48; go_in)
  go_quiet (fail)
  go_wp2
  go_ret2
  exact ⟨rfl, hs0.drewN _⟩


set_option maxHeartbeats 1600000 in
set_option maxRecDepth 100000 in
theorem rTake_neg0 {w : World} {R : List Asn} {B : BI} {q : Nat} {r : RPair} (hs : Sep w (base B :: refA q r :: R)) (n : Int)  (hn : n < 0) :
    Calls Tryd.prog 21 #[.pointer (some ⟨q, 0, none⟩), .int .i64 0, .int .i64 n] w fun x w' => x = .returned (.tuple #[.slice none 0 0, .int .i64 1]) ∧ Sep w' (base B :: refA q r :: R) := by
  have hs0 := hs
  obtain ⟨room, ⟨a0, r0, d0, s0⟩, ⟨a1, r1, d1, s1⟩, cut⟩ := r
  obtain ⟨A0, A1, c0, c1, h⟩ := ref_open hs
  dsimp only at *
  obtain ⟨hc, hf⟩ := h.swap.cells
  clear h
  go_enter Tryd.func21, Tryd.ntmps21
  go_wp2_with (go_at_call 48; go_in)
  go_ret2
  exact ⟨rfl, hs0⟩


set_option maxHeartbeats 1600000 in
set_option maxRecDepth 100000 in
theorem rTake_cut1 {w : World} {R : List Asn} {B : BI} {q : Nat} {r : RPair} (hs : Sep w (base B :: refA q r :: R)) (n : Int)  (hcut : r.cut = true) (hrd : r.a.rd = r.a.car) (hn : 0 ≤ n) :
    Calls Tryd.prog 21 #[.pointer (some ⟨q, 0, none⟩), .int .i64 1, .int .i64 n] w fun x w' => x = .returned (.tuple #[.slice none 0 0, .int .i64 5]) ∧ Sep w' (base B :: refA q r :: R) := by
  have hs0 := hs
  obtain ⟨room, ⟨a0, r0, d0, s0⟩, ⟨a1, r1, d1, s1⟩, cut⟩ := r
  obtain ⟨A0, A1, c0, c1, h⟩ := ref_open hs
  dsimp only at *
  subst hcut; subst hrd
  obtain ⟨hc, hf⟩ := h.swap.cells
  clear h
  go_enter Tryd.func21, Tryd.ntmps21
  go_wp2_with (go_at_call 48; go_in)
  go_quiet (fail)
  go_wp2
  go_ret2
  exact ⟨rfl, hs0.drewN _⟩


set_option maxHeartbeats 1600000 in
set_option maxRecDepth 100000 in
theorem rTake_neg1 {w : World} {R : List Asn} {B : BI} {q : Nat} {r : RPair} (hs : Sep w (base B :: refA q r :: R)) (n : Int)  (hn : n < 0) :
    Calls Tryd.prog 21 #[.pointer (some ⟨q, 0, none⟩), .int .i64 1, .int .i64 n] w fun x w' => x = .returned (.tuple #[.slice none 0 0, .int .i64 1]) ∧ Sep w' (base B :: refA q r :: R) := by
  have hs0 := hs
  obtain ⟨room, ⟨a0, r0, d0, s0⟩, ⟨a1, r1, d1, s1⟩, cut⟩ := r
  obtain ⟨A0, A1, c0, c1, h⟩ := ref_open hs
  dsimp only at *
  obtain ⟨hc, hf⟩ := h.swap.cells
  clear h
  go_enter Tryd.func21, Tryd.ntmps21
  go_wp2_with (go_at_call 48; go_in)
  go_ret2
  exact ⟨rfl, hs0⟩


set_option maxHeartbeats 1600000 in
set_option maxRecDepth 100000 in
theorem rShut_no {w : World} {R : List Asn} {B : BI} {q : Nat} {r : RPair} (hs : Sep w (base B :: refA q r :: R))  (e : Int) (h0 : (e == 0) = false) (h1 : (e == 1) = false) :
    Calls Tryd.prog 17 #[.pointer (some ⟨q, 0, none⟩), .int .i64 e] w fun x w' => x = .returned (.int .i64 1) ∧ Sep w' (base B :: refA q r :: R) := by
  have hs0 := hs
  obtain ⟨room, ⟨a0, r0, d0, s0⟩, ⟨a1, r1, d1, s1⟩, cut⟩ := r
  obtain ⟨A0, A1, c0, c1, h⟩ := ref_open hs
  dsimp only at *
  obtain ⟨hc, hf⟩ := h.swap.cells
  clear h
  go_enter Tryd.func17, Tryd.ntmps17
  go_wp2_with (go_at_call 48; go_in)
  go_ret
  exact ⟨rfl, hs0⟩


set_option maxHeartbeats 1600000 in
set_option maxRecDepth 100000 in
theorem rShut_cut0 {w : World} {R : List Asn} {B : BI} {q : Nat} {r : RPair} (hs : Sep w (base B :: refA q r :: R))   (hcut : r.cut = true) :
    Calls Tryd.prog 17 #[.pointer (some ⟨q, 0, none⟩), .int .i64 0] w fun x w' => x = .returned (.int .i64 5) ∧ Sep w' (base B :: refA q r :: R) := by
  have hs0 := hs
  obtain ⟨room, ⟨a0, r0, d0, s0⟩, ⟨a1, r1, d1, s1⟩, cut⟩ := r
  obtain ⟨A0, A1, c0, c1, h⟩ := ref_open hs
  dsimp only at *
  subst hcut
  obtain ⟨hc, hf⟩ := h.swap.cells
  clear h
  go_enter Tryd.func17, Tryd.ntmps17
  go_wp2_with (go_at_call 48; go_in)
  go_ret
  exact ⟨rfl, hs0⟩


set_option maxHeartbeats 1600000 in
set_option maxRecDepth 100000 in
theorem rShut_cut1 {w : World} {R : List Asn} {B : BI} {q : Nat} {r : RPair} (hs : Sep w (base B :: refA q r :: R))   (hcut : r.cut = true) :
    Calls Tryd.prog 17 #[.pointer (some ⟨q, 0, none⟩), .int .i64 1] w fun x w' => x = .returned (.int .i64 5) ∧ Sep w' (base B :: refA q r :: R) := by
  have hs0 := hs
  obtain ⟨room, ⟨a0, r0, d0, s0⟩, ⟨a1, r1, d1, s1⟩, cut⟩ := r
  obtain ⟨A0, A1, c0, c1, h⟩ := ref_open hs
  dsimp only at *
  subst hcut
  obtain ⟨hc, hf⟩ := h.swap.cells
  clear h
  go_enter Tryd.func17, Tryd.ntmps17
  go_wp2_with (go_at_call 48; go_in)
  go_ret
  exact ⟨rfl, hs0⟩


set_option maxHeartbeats 1600000 in
set_option maxRecDepth 100000 in
theorem rShut_ok0 {w : World} {R : List Asn} {B : BI} {q : Nat} {r : RPair} (hs : Sep w (base B :: refA q r :: R)) (hcut : r.cut = false) :
    Calls Tryd.prog 17 #[.pointer (some ⟨q, 0, none⟩), .int .i64 0] w fun x w' => x = .returned (.int .i64 0) ∧ Sep w' (base B :: refA q { r with a := { r.a with sh := true } } :: R) := by
  obtain ⟨room, ⟨a0, r0, d0, s0⟩, ⟨a1, r1, d1, s1⟩, cut⟩ := r
  obtain ⟨A0, A1, c0, c1, h⟩ := ref_open hs
  dsimp only at *
  subst hcut
  obtain ⟨hc, hf⟩ := h.swap.cells
  go_enter Tryd.func17, Tryd.ntmps17
  go_wp2_with (go_at_call 48; go_in)
  go_ret
  exact ⟨rfl, ref_close (h.swap.store 4 (.bool true)).swap⟩

set_option maxHeartbeats 1600000 in
set_option maxRecDepth 100000 in
theorem rFlight_ok0 {w : World} {R : List Asn} {B : BI} {q : Nat} {r : RPair} (hs : Sep w (base B :: refA q r :: R)) (hok : r.ok) :
    Calls Tryd.prog 27 #[.pointer (some ⟨q, 0, none⟩), .int .i64 0] w fun x w' => x = .returned (.int .i64 (if r.cut then 0 else (r.a.all.length - r.a.car : Nat))) ∧ ∃ k, w' = w.drewN k := by
  obtain ⟨room, ⟨a0, r0, d0, s0⟩, ⟨a1, r1, d1, s1⟩, cut⟩ := r
  obtain ⟨A0, A1, c0, c1, h⟩ := ref_open hs
  dsimp only at *
  obtain ⟨q1, ⟨q2, q3, q4, q5⟩, ⟨q6, q7, q8, q9⟩⟩ := hok
  dsimp only at q1 q2 q3 q4 q5 q6 q7 q8 q9
  obtain ⟨hc, hf⟩ := h.swap.cells
  cases cut
  · go_enter Tryd.func27, Tryd.ntmps27
    go_wp2_with (go_at_call 48; go_in)
    go_quiet (fail)
    go_wp2
    go_ret
    refine ⟨?_, _, rfl⟩
    simp
    omega
  · go_enter Tryd.func27, Tryd.ntmps27
    go_wp2_with (go_at_call 48; go_in)
    go_ret
    exact ⟨by simp, 0, rfl⟩

set_option maxHeartbeats 1600000 in
set_option maxRecDepth 100000 in
theorem rInbox_ok0 {w : World} {R : List Asn} {B : BI} {q : Nat} {r : RPair} (hs : Sep w (base B :: refA q r :: R)) (hok : r.ok) :
    Calls Tryd.prog 29 #[.pointer (some ⟨q, 0, none⟩), .int .i64 0] w fun x w' => x = .returned (.int .i64 (r.b.car - r.b.rd : Nat)) ∧ ∃ k, w' = w.drewN k := by
  obtain ⟨room, ⟨a0, r0, d0, s0⟩, ⟨a1, r1, d1, s1⟩, cut⟩ := r
  obtain ⟨A0, A1, c0, c1, h⟩ := ref_open hs
  dsimp only at *
  obtain ⟨q1, ⟨q2, q3, q4, q5⟩, ⟨q6, q7, q8, q9⟩⟩ := hok
  dsimp only at q1 q2 q3 q4 q5 q6 q7 q8 q9
  obtain ⟨hc, hf⟩ := h.swap.cells
  go_enter Tryd.func29, Tryd.ntmps29
  go_wp2_with (go_at_call 48; go_in)
  go_quiet (fail)
  go_wp2
  go_ret
  refine ⟨?_, _, rfl⟩
  simp
  omega

set_option maxHeartbeats 1600000 in
set_option maxRecDepth 100000 in
theorem rFree_ok0 {w : World} {R : List Asn} {B : BI} {q : Nat} {r : RPair} (hs : Sep w (base B :: refA q r :: R)) (hok : r.ok) :
    Calls Tryd.prog 25 #[.pointer (some ⟨q, 0, none⟩), .int .i64 0] w fun x w' => x = .returned (.int .i64 (if r.cut || r.a.sh then 0 else (r.room - (r.a.all.length - r.a.rd) : Nat))) ∧ ∃ k, w' = w.drewN k := by
  obtain ⟨room, ⟨a0, r0, d0, s0⟩, ⟨a1, r1, d1, s1⟩, cut⟩ := r
  obtain ⟨A0, A1, c0, c1, h⟩ := ref_open hs
  dsimp only at *
  obtain ⟨q1, ⟨q2, q3, q4, q5⟩, ⟨q6, q7, q8, q9⟩⟩ := hok
  dsimp only at q1 q2 q3 q4 q5 q6 q7 q8 q9
  obtain ⟨hc, hf⟩ := h.swap.cells
  cases cut
  · cases s0
    · go_enter Tryd.func25, Tryd.ntmps25
      go_wp2_with (go_at_call 48; go_in)
      go_quiet (fail)
      go_wp2
      go_ret
      refine ⟨?_, _, rfl⟩
      simp
      omega
    · go_enter Tryd.func25, Tryd.ntmps25
      go_wp2_with (go_at_call 48; go_in)
      go_ret
      exact ⟨by simp, 0, rfl⟩
  · go_enter Tryd.func25, Tryd.ntmps25
    go_wp2_with (go_at_call 48; go_in)
    go_ret
    exact ⟨by simp, 0, rfl⟩

set_option maxHeartbeats 1600000 in
set_option maxRecDepth 100000 in
theorem rEnded_ok0 {w : World} {R : List Asn} {B : BI} {q : Nat} {r : RPair} (hs : Sep w (base B :: refA q r :: R)) (hok : r.ok) :
    Calls Tryd.prog 31 #[.pointer (some ⟨q, 0, none⟩), .int .i64 0] w fun x w' => x = .returned (.bool (r.b.sh && r.b.rd == r.b.all.length)) ∧ Sep w' (base B :: refA q r :: R) := by
  have hs0 := hid hs
  obtain ⟨room, ⟨a0, r0, d0, s0⟩, ⟨a1, r1, d1, s1⟩, cut⟩ := r
  obtain ⟨A0, A1, c0, c1, h⟩ := ref_open hs
  dsimp only at *
  obtain ⟨q1, ⟨q2, q3, q4, q5⟩, ⟨q6, q7, q8, q9⟩⟩ := hok
  dsimp only at q1 q2 q3 q4 q5 q6 q7 q8 q9
  obtain ⟨hc, hf⟩ := h.swap.cells
  cases s1
  all_goals
    go_enter Tryd.func31, Tryd.ntmps31
    go_wp2_with (go_at_call 48; go_in)
    go_ret
    exact ⟨by simp [natbeq], hs0.out.alloc_ _⟩


set_option maxHeartbeats 1600000 in
set_option maxRecDepth 100000 in
theorem rShut_ok1 {w : World} {R : List Asn} {B : BI} {q : Nat} {r : RPair} (hs : Sep w (base B :: refA q r :: R)) (hcut : r.cut = false) :
    Calls Tryd.prog 17 #[.pointer (some ⟨q, 0, none⟩), .int .i64 1] w fun x w' => x = .returned (.int .i64 0) ∧ Sep w' (base B :: refA q { r with b := { r.b with sh := true } } :: R) := by
  obtain ⟨room, ⟨a0, r0, d0, s0⟩, ⟨a1, r1, d1, s1⟩, cut⟩ := r
  obtain ⟨A0, A1, c0, c1, h⟩ := ref_open hs
  dsimp only at *
  subst hcut
  obtain ⟨hc, hf⟩ := h.swap.cells
  go_enter Tryd.func17, Tryd.ntmps17
  go_wp2_with (go_at_call 48; go_in)
  go_ret
  exact ⟨rfl, ref_close (h.swap.store 8 (.bool true)).swap⟩

set_option maxHeartbeats 1600000 in
set_option maxRecDepth 100000 in
theorem rFlight_ok1 {w : World} {R : List Asn} {B : BI} {q : Nat} {r : RPair} (hs : Sep w (base B :: refA q r :: R)) (hok : r.ok) :
    Calls Tryd.prog 27 #[.pointer (some ⟨q, 0, none⟩), .int .i64 1] w fun x w' => x = .returned (.int .i64 (if r.cut then 0 else (r.b.all.length - r.b.car : Nat))) ∧ ∃ k, w' = w.drewN k := by
  obtain ⟨room, ⟨a0, r0, d0, s0⟩, ⟨a1, r1, d1, s1⟩, cut⟩ := r
  obtain ⟨A0, A1, c0, c1, h⟩ := ref_open hs
  dsimp only at *
  obtain ⟨q1, ⟨q2, q3, q4, q5⟩, ⟨q6, q7, q8, q9⟩⟩ := hok
  dsimp only at q1 q2 q3 q4 q5 q6 q7 q8 q9
  obtain ⟨hc, hf⟩ := h.swap.cells
  cases cut
  · go_enter Tryd.func27, Tryd.ntmps27
    go_wp2_with (go_at_call 48; go_in)
    go_quiet (fail)
    go_wp2
    go_ret
    refine ⟨?_, _, rfl⟩
    simp
    omega
  · go_enter Tryd.func27, Tryd.ntmps27
    go_wp2_with (go_at_call 48; go_in)
    go_ret
    exact ⟨by simp, 0, rfl⟩

set_option maxHeartbeats 1600000 in
set_option maxRecDepth 100000 in
theorem rInbox_ok1 {w : World} {R : List Asn} {B : BI} {q : Nat} {r : RPair} (hs : Sep w (base B :: refA q r :: R)) (hok : r.ok) :
    Calls Tryd.prog 29 #[.pointer (some ⟨q, 0, none⟩), .int .i64 1] w fun x w' => x = .returned (.int .i64 (r.a.car - r.a.rd : Nat)) ∧ ∃ k, w' = w.drewN k := by
  obtain ⟨room, ⟨a0, r0, d0, s0⟩, ⟨a1, r1, d1, s1⟩, cut⟩ := r
  obtain ⟨A0, A1, c0, c1, h⟩ := ref_open hs
  dsimp only at *
  obtain ⟨q1, ⟨q2, q3, q4, q5⟩, ⟨q6, q7, q8, q9⟩⟩ := hok
  dsimp only at q1 q2 q3 q4 q5 q6 q7 q8 q9
  obtain ⟨hc, hf⟩ := h.swap.cells
  go_enter Tryd.func29, Tryd.ntmps29
  go_wp2_with (go_at_call 48; go_in)
  go_quiet (fail)
  go_wp2
  go_ret
  refine ⟨?_, _, rfl⟩
  simp
  omega

set_option maxHeartbeats 1600000 in
set_option maxRecDepth 100000 in
theorem rFree_ok1 {w : World} {R : List Asn} {B : BI} {q : Nat} {r : RPair} (hs : Sep w (base B :: refA q r :: R)) (hok : r.ok) :
    Calls Tryd.prog 25 #[.pointer (some ⟨q, 0, none⟩), .int .i64 1] w fun x w' => x = .returned (.int .i64 (if r.cut || r.b.sh then 0 else (r.room - (r.b.all.length - r.b.rd) : Nat))) ∧ ∃ k, w' = w.drewN k := by
  obtain ⟨room, ⟨a0, r0, d0, s0⟩, ⟨a1, r1, d1, s1⟩, cut⟩ := r
  obtain ⟨A0, A1, c0, c1, h⟩ := ref_open hs
  dsimp only at *
  obtain ⟨q1, ⟨q2, q3, q4, q5⟩, ⟨q6, q7, q8, q9⟩⟩ := hok
  dsimp only at q1 q2 q3 q4 q5 q6 q7 q8 q9
  obtain ⟨hc, hf⟩ := h.swap.cells
  cases cut
  · cases s1
    · go_enter Tryd.func25, Tryd.ntmps25
      go_wp2_with (go_at_call 48; go_in)
      go_quiet (fail)
      go_wp2
      go_ret
      refine ⟨?_, _, rfl⟩
      simp
      omega
    · go_enter Tryd.func25, Tryd.ntmps25
      go_wp2_with (go_at_call 48; go_in)
      go_ret
      exact ⟨by simp, 0, rfl⟩
  · go_enter Tryd.func25, Tryd.ntmps25
    go_wp2_with (go_at_call 48; go_in)
    go_ret
    exact ⟨by simp, 0, rfl⟩

set_option maxHeartbeats 1600000 in
set_option maxRecDepth 100000 in
theorem rEnded_ok1 {w : World} {R : List Asn} {B : BI} {q : Nat} {r : RPair} (hs : Sep w (base B :: refA q r :: R)) (hok : r.ok) :
    Calls Tryd.prog 31 #[.pointer (some ⟨q, 0, none⟩), .int .i64 1] w fun x w' => x = .returned (.bool (r.a.sh && r.a.rd == r.a.all.length)) ∧ Sep w' (base B :: refA q r :: R) := by
  have hs0 := hid hs
  obtain ⟨room, ⟨a0, r0, d0, s0⟩, ⟨a1, r1, d1, s1⟩, cut⟩ := r
  obtain ⟨A0, A1, c0, c1, h⟩ := ref_open hs
  dsimp only at *
  obtain ⟨q1, ⟨q2, q3, q4, q5⟩, ⟨q6, q7, q8, q9⟩⟩ := hok
  dsimp only at q1 q2 q3 q4 q5 q6 q7 q8 q9
  obtain ⟨hc, hf⟩ := h.swap.cells
  cases s0
  all_goals
    go_enter Tryd.func31, Tryd.ntmps31
    go_wp2_with (go_at_call 48; go_in)
    go_ret
    exact ⟨by simp [natbeq], hs0.out.alloc_ _⟩


set_option maxHeartbeats 1600000 in
set_option maxRecDepth 100000 in
theorem rCarry_ok0 {w : World} {R : List Asn} {B : BI} {q : Nat} {r : RPair} (hs : Sep w (base B :: refA q r :: R)) (hok : r.ok) (hcut : r.cut = false) (n k : Nat) (hk : k = min n (r.a.all.length - r.a.car)) :
    Calls Tryd.prog 19 #[.pointer (some ⟨q, 0, none⟩), .int .i64 0, .int .i64 n] w fun x w' => x = .returned (.tuple #[.int .i64 k, .int .i64 0]) ∧ Sep w' (base B :: refA q { r with a := { r.a with car := r.a.car + k } } :: R) := by
  obtain ⟨room, ⟨a0, r0, d0, s0⟩, ⟨a1, r1, d1, s1⟩, cut⟩ := r
  obtain ⟨A0, A1, c0, c1, h⟩ := ref_open hs
  dsimp only at *
  obtain ⟨q1, ⟨q2, q3, q4, q5⟩, ⟨q6, q7, q8, q9⟩⟩ := hok
  dsimp only at q1 q2 q3 q4 q5 q6 q7 q8 q9
  subst hcut
  have Hk := hid hk
  clear hk
  obtain ⟨hc, hf⟩ := h.swap.cells
  have hlen : 0 ≤ (a0.length : Int) - r0 := by omega
  have H := hid h
  clear h
  by_cases hm : (a0.length : Int) - r0 < n
  · go_enter Tryd.func19, Tryd.ntmps19
    go_wp2_with (go_at_call 48; go_in)
    go_quiet (fail)
    go_wp2
    go_quiet (fail)
    go_wp2
    go_ret2
    have e1 : (r0 : Int) + (a0.length - r0) = ((r0 + k : Nat) : Int) := by have := Hk.out; omega
    have e2 : (a0.length : Int) - r0 = k := by have := Hk.out; omega
    rw [e1]
    exact ⟨by simp [e2], ref_close (((H.out.swap.drewN _).store 2 (.int .i64 ((r0 + k : Nat) : Int))).swap)⟩
  · go_enter Tryd.func19, Tryd.ntmps19
    go_wp2_with (go_at_call 48; go_in)
    go_quiet (fail)
    go_wp2
    go_ret2
    obtain rfl : k = n := by have := Hk.out; omega
    have e1 : (r0 : Int) + k = ((r0 + k : Nat) : Int) := by omega
    rw [e1]
    exact ⟨by simp, ref_close (((H.out.swap.drewN _).store 2 (.int .i64 ((r0 + k : Nat) : Int))).swap)⟩


set_option maxHeartbeats 1600000 in
set_option maxRecDepth 100000 in
theorem rCarry_ok1 {w : World} {R : List Asn} {B : BI} {q : Nat} {r : RPair} (hs : Sep w (base B :: refA q r :: R)) (hok : r.ok) (hcut : r.cut = false) (n k : Nat) (hk : k = min n (r.b.all.length - r.b.car)) :
    Calls Tryd.prog 19 #[.pointer (some ⟨q, 0, none⟩), .int .i64 1, .int .i64 n] w fun x w' => x = .returned (.tuple #[.int .i64 k, .int .i64 0]) ∧ Sep w' (base B :: refA q { r with b := { r.b with car := r.b.car + k } } :: R) := by
  obtain ⟨room, ⟨a0, r0, d0, s0⟩, ⟨a1, r1, d1, s1⟩, cut⟩ := r
  obtain ⟨A0, A1, c0, c1, h⟩ := ref_open hs
  dsimp only at *
  obtain ⟨q1, ⟨q2, q3, q4, q5⟩, ⟨q6, q7, q8, q9⟩⟩ := hok
  dsimp only at q1 q2 q3 q4 q5 q6 q7 q8 q9
  subst hcut
  have Hk := hid hk
  clear hk
  obtain ⟨hc, hf⟩ := h.swap.cells
  have hlen : 0 ≤ (a1.length : Int) - r1 := by omega
  have H := hid h
  clear h
  by_cases hm : (a1.length : Int) - r1 < n
  · go_enter Tryd.func19, Tryd.ntmps19
    go_wp2_with (go_at_call 48; go_in)
    go_quiet (fail)
    go_wp2
    go_quiet (fail)
    go_wp2
    go_ret2
    have e1 : (r1 : Int) + (a1.length - r1) = ((r1 + k : Nat) : Int) := by have := Hk.out; omega
    have e2 : (a1.length : Int) - r1 = k := by have := Hk.out; omega
    rw [e1]
    exact ⟨by simp [e2], ref_close (((H.out.swap.drewN _).store 6 (.int .i64 ((r1 + k : Nat) : Int))).swap)⟩
  · go_enter Tryd.func19, Tryd.ntmps19
    go_wp2_with (go_at_call 48; go_in)
    go_quiet (fail)
    go_wp2
    go_ret2
    obtain rfl : k = n := by have := Hk.out; omega
    have e1 : (r1 : Int) + k = ((r1 + k : Nat) : Int) := by omega
    rw [e1]
    exact ⟨by simp, ref_close (((H.out.swap.drewN _).store 6 (.int .i64 ((r1 + k : Nat) : Int))).swap)⟩

end Go.Proofs.YtgegpjkihbhndaaDoor