/- What is proved: what each function of package sock and of its reference computes, for every end, as one function of its arguments. Conditions: their memory is as 'pairA', 'refA' say. -/
import Derived.Test.YtgegpjkihbhndaaDoorSock2
import Derived.Test.YtgegpjkihbhndaaDoorSock3
import Derived.Test.YtgegpjkihbhndaaDoorSock4
import Derived.Test.YtgegpjkihbhndaaDoorRef3
import Derived.Test.YtgegpjkihbhndaaDoorRef3b
import Derived.Test.YtgegpjkihbhndaaDoorNum
namespace Go.Proofs.YtgegpjkihbhndaaDoor
open Go.RowKit
set_option linter.unusedVariables false

theorem sFlight_no {w : World} {R : List Asn} {B : BI} {p : Nat} {s : SPair} (hs : Sep w (base B :: pairA p s :: R)) (e : Int) (h0 : (e == 0) = false) (h1 : (e == 1) = false) :
    Calls Tryd.prog 26 #[.pointer (some ⟨p, 0, none⟩), .int .i64 e] w fun r w' => r = .returned (.int .i64 0) ∧ w = w' := by
  obtain ⟨room, ⟨f0, i0, s0, n0⟩, ⟨f1, i1, s1, n1⟩, cut⟩ := s
  obtain ⟨A0, A1, A2, A3, c0, c1, c2, c3, h⟩ := pair_open hs
  dsimp only at *
  obtain ⟨hc, hf⟩ := h.swap.cells
  go_enter Tryd.func26, Tryd.ntmps26
  go_wp2_with (first | (go_at_call 45; go_in) | (go_at_call 46; go_in) | (go_at_call 50; go_in))
  go_ret
  exact ⟨rfl, rfl⟩
theorem sInbox_no {w : World} {R : List Asn} {B : BI} {p : Nat} {s : SPair} (hs : Sep w (base B :: pairA p s :: R)) (e : Int) (h0 : (e == 0) = false) (h1 : (e == 1) = false) :
    Calls Tryd.prog 28 #[.pointer (some ⟨p, 0, none⟩), .int .i64 e] w fun r w' => r = .returned (.int .i64 0) ∧ w = w' := by
  obtain ⟨room, ⟨f0, i0, s0, n0⟩, ⟨f1, i1, s1, n1⟩, cut⟩ := s
  obtain ⟨A0, A1, A2, A3, c0, c1, c2, c3, h⟩ := pair_open hs
  dsimp only at *
  obtain ⟨hc, hf⟩ := h.swap.cells
  go_enter Tryd.func28, Tryd.ntmps28
  go_wp2_with (first | (go_at_call 45; go_in) | (go_at_call 46; go_in) | (go_at_call 50; go_in))
  go_ret
  exact ⟨rfl, rfl⟩
theorem sRoom_no {w : World} {R : List Asn} {B : BI} {p : Nat} {s : SPair} (hs : Sep w (base B :: pairA p s :: R)) (e : Int) (h0 : (e == 0) = false) (h1 : (e == 1) = false) :
    Calls Tryd.prog 24 #[.pointer (some ⟨p, 0, none⟩), .int .i64 e] w fun r w' => r = .returned (.int .i64 0) ∧ w = w' := by
  obtain ⟨room, ⟨f0, i0, s0, n0⟩, ⟨f1, i1, s1, n1⟩, cut⟩ := s
  obtain ⟨A0, A1, A2, A3, c0, c1, c2, c3, h⟩ := pair_open hs
  dsimp only at *
  obtain ⟨hc, hf⟩ := h.swap.cells
  go_enter Tryd.func24, Tryd.ntmps24
  go_wp2_with (first | (go_at_call 45; go_in) | (go_at_call 46; go_in) | (go_at_call 50; go_in))
  go_ret
  exact ⟨rfl, rfl⟩
theorem sEnded_no {w : World} {R : List Asn} {B : BI} {p : Nat} {s : SPair} (hs : Sep w (base B :: pairA p s :: R)) (e : Int) (h0 : (e == 0) = false) (h1 : (e == 1) = false) :
    Calls Tryd.prog 30 #[.pointer (some ⟨p, 0, none⟩), .int .i64 e] w fun r w' => r = .returned (.bool false) ∧ w = w' := by
  obtain ⟨room, ⟨f0, i0, s0, n0⟩, ⟨f1, i1, s1, n1⟩, cut⟩ := s
  obtain ⟨A0, A1, A2, A3, c0, c1, c2, c3, h⟩ := pair_open hs
  dsimp only at *
  obtain ⟨hc, hf⟩ := h.swap.cells
  go_enter Tryd.func30, Tryd.ntmps30
  go_wp2_with (first | (go_at_call 45; go_in) | (go_at_call 46; go_in) | (go_at_call 50; go_in))
  go_ret
  exact ⟨rfl, rfl⟩
theorem rFlight_no {w : World} {R : List Asn} {B : BI} {q : Nat} {r : RPair} (hs : Sep w (base B :: refA q r :: R)) (e : Int) (h0 : (e == 0) = false) (h1 : (e == 1) = false) :
    Calls Tryd.prog 27 #[.pointer (some ⟨q, 0, none⟩), .int .i64 e] w fun x w' => x = .returned (.int .i64 0) ∧ w = w' := by
  obtain ⟨room, ⟨a0, r0, d0, s0⟩, ⟨a1, r1, d1, s1⟩, cut⟩ := r
  obtain ⟨A0, A1, c0, c1, h⟩ := ref_open hs
  dsimp only at *
  obtain ⟨hc, hf⟩ := h.swap.cells
  go_enter Tryd.func27, Tryd.ntmps27
  go_wp2_with (go_at_call 48; go_in)
  go_ret
  exact ⟨rfl, rfl⟩
theorem rInbox_no {w : World} {R : List Asn} {B : BI} {q : Nat} {r : RPair} (hs : Sep w (base B :: refA q r :: R)) (e : Int) (h0 : (e == 0) = false) (h1 : (e == 1) = false) :
    Calls Tryd.prog 29 #[.pointer (some ⟨q, 0, none⟩), .int .i64 e] w fun x w' => x = .returned (.int .i64 0) ∧ w = w' := by
  obtain ⟨room, ⟨a0, r0, d0, s0⟩, ⟨a1, r1, d1, s1⟩, cut⟩ := r
  obtain ⟨A0, A1, c0, c1, h⟩ := ref_open hs
  dsimp only at *
  obtain ⟨hc, hf⟩ := h.swap.cells
  go_enter Tryd.func29, Tryd.ntmps29
  go_wp2_with (go_at_call 48; go_in)
  go_ret
  exact ⟨rfl, rfl⟩
theorem rFree_no {w : World} {R : List Asn} {B : BI} {q : Nat} {r : RPair} (hs : Sep w (base B :: refA q r :: R)) (e : Int) (h0 : (e == 0) = false) (h1 : (e == 1) = false) :
    Calls Tryd.prog 25 #[.pointer (some ⟨q, 0, none⟩), .int .i64 e] w fun x w' => x = .returned (.int .i64 0) ∧ w = w' := by
  obtain ⟨room, ⟨a0, r0, d0, s0⟩, ⟨a1, r1, d1, s1⟩, cut⟩ := r
  obtain ⟨A0, A1, c0, c1, h⟩ := ref_open hs
  dsimp only at *
  obtain ⟨hc, hf⟩ := h.swap.cells
  go_enter Tryd.func25, Tryd.ntmps25
  go_wp2_with (go_at_call 48; go_in)
  go_ret
  exact ⟨rfl, rfl⟩
theorem rEnded_no {w : World} {R : List Asn} {B : BI} {q : Nat} {r : RPair} (hs : Sep w (base B :: refA q r :: R)) (e : Int) (h0 : (e == 0) = false) (h1 : (e == 1) = false) :
    Calls Tryd.prog 31 #[.pointer (some ⟨q, 0, none⟩), .int .i64 e] w fun x w' => x = .returned (.bool false) ∧ w = w' := by
  obtain ⟨room, ⟨a0, r0, d0, s0⟩, ⟨a1, r1, d1, s1⟩, cut⟩ := r
  obtain ⟨A0, A1, c0, c1, h⟩ := ref_open hs
  dsimp only at *
  obtain ⟨hc, hf⟩ := h.swap.cells
  go_enter Tryd.func31, Tryd.ntmps31
  go_wp2_with (go_at_call 48; go_in)
  go_ret
  exact ⟨rfl, rfl⟩

/-! ### As functions -/
def SPair.write (s : SPair) (e : Int) (l : List UInt8) : SPair × Nat × Nat :=
  if e = 0 then if s.cut then (s, 0, 5) else if s.a.sh then (s, 0, 17) else
    ({ s with a := { s.a with fl := s.a.fl ++ l.take (min (s.room - s.a.fl.length - s.a.ib.length) l.length) } }, min (s.room - s.a.fl.length - s.a.ib.length) l.length, 0)
  else if e = 1 then if s.cut then (s, 0, 5) else if s.b.sh then (s, 0, 17) else
    ({ s with b := { s.b with fl := s.b.fl ++ l.take (min (s.room - s.b.fl.length - s.b.ib.length) l.length) } }, min (s.room - s.b.fl.length - s.b.ib.length) l.length, 0)
  else (s, 0, 1)
def SPair.shut (s : SPair) (e : Int) : SPair × Nat :=
  if e = 0 then if s.cut then (s, 5) else ({ s with a := { s.a with sh := true } }, 0)
  else if e = 1 then if s.cut then (s, 5) else ({ s with b := { s.b with sh := true } }, 0)
  else (s, 1)
def SPair.carry (s : SPair) (e n : Int) : SPair × Nat × Nat :=
  if e = 0 then if n < 0 then (s, 0, 1) else if s.cut then (s, 0, 5) else
    ({ s with a := { s.a with fl := s.a.fl.drop (min n.toNat s.a.fl.length), ib := s.a.ib ++ s.a.fl.take (min n.toNat s.a.fl.length) } }, min n.toNat s.a.fl.length, 0)
  else if e = 1 then if n < 0 then (s, 0, 1) else if s.cut then (s, 0, 5) else
    ({ s with b := { s.b with fl := s.b.fl.drop (min n.toNat s.b.fl.length), ib := s.b.ib ++ s.b.fl.take (min n.toNat s.b.fl.length) } }, min n.toNat s.b.fl.length, 0)
  else (s, 0, 1)
def SPair.read (s : SPair) (e n : Int) : SPair × List UInt8 × Nat :=
  if e = 0 then if n < 0 then (s, [], 1) else if s.cut && s.b.ib.isEmpty then (s, [], 5) else
    ({ s with b := { s.b with ib := s.b.ib.drop (min n.toNat s.b.ib.length) } }, s.b.ib.take (min n.toNat s.b.ib.length), 0)
  else if e = 1 then if n < 0 then (s, [], 1) else if s.cut && s.a.ib.isEmpty then (s, [], 5) else
    ({ s with a := { s.a with ib := s.a.ib.drop (min n.toNat s.a.ib.length) } }, s.a.ib.take (min n.toNat s.a.ib.length), 0)
  else (s, [], 1)
def SPair.roomOf (s : SPair) (e : Int) : Int :=
  if e = 0 then (if s.cut || s.a.sh then 0 else (s.room - s.a.fl.length - s.a.ib.length : Nat)) else if e = 1 then (if s.cut || s.b.sh then 0 else (s.room - s.b.fl.length - s.b.ib.length : Nat)) else 0
def SPair.flightOf (s : SPair) (e : Int) : Int := if e = 0 then s.a.fl.length else if e = 1 then s.b.fl.length else 0
def SPair.inboxOf (s : SPair) (e : Int) : Int := if e = 0 then s.b.ib.length else if e = 1 then s.a.ib.length else 0
def SPair.endedOf (s : SPair) (e : Int) : Bool :=
  if e = 0 then (if s.cut then s.b.en && s.b.ib.isEmpty else s.b.sh && s.b.fl.isEmpty && s.b.ib.isEmpty)
  else if e = 1 then (if s.cut then s.a.en && s.a.ib.isEmpty else s.a.sh && s.a.fl.isEmpty && s.a.ib.isEmpty) else false

def RPair.write (r : RPair) (e : Int) (l : List UInt8) : RPair × Nat × Nat :=
  if e = 0 then if r.cut then (r, 0, 5) else if r.a.sh then (r, 0, 17) else
    ({ r with a := { r.a with all := r.a.all ++ l.take (min (r.room - (r.a.all.length - r.a.rd)) l.length) } }, min (r.room - (r.a.all.length - r.a.rd)) l.length, 0)
  else if e = 1 then if r.cut then (r, 0, 5) else if r.b.sh then (r, 0, 17) else
    ({ r with b := { r.b with all := r.b.all ++ l.take (min (r.room - (r.b.all.length - r.b.rd)) l.length) } }, min (r.room - (r.b.all.length - r.b.rd)) l.length, 0)
  else (r, 0, 1)
def RPair.shut (r : RPair) (e : Int) : RPair × Nat :=
  if e = 0 then if r.cut then (r, 5) else ({ r with a := { r.a with sh := true } }, 0)
  else if e = 1 then if r.cut then (r, 5) else ({ r with b := { r.b with sh := true } }, 0)
  else (r, 1)
def RPair.carry (r : RPair) (e n : Int) : RPair × Nat × Nat :=
  if e = 0 then if n < 0 then (r, 0, 1) else if r.cut then (r, 0, 5) else
    ({ r with a := { r.a with car := r.a.car + min n.toNat (r.a.all.length - r.a.car) } }, min n.toNat (r.a.all.length - r.a.car), 0)
  else if e = 1 then if n < 0 then (r, 0, 1) else if r.cut then (r, 0, 5) else
    ({ r with b := { r.b with car := r.b.car + min n.toNat (r.b.all.length - r.b.car) } }, min n.toNat (r.b.all.length - r.b.car), 0)
  else (r, 0, 1)
def RPair.read (r : RPair) (e n : Int) : RPair × List UInt8 × Nat :=
  if e = 0 then if n < 0 then (r, [], 1) else if r.cut && r.b.rd == r.b.car then (r, [], 5) else
    ({ r with b := { r.b with rd := r.b.rd + min n.toNat (r.b.car - r.b.rd) } }, (r.b.all.drop r.b.rd).take (min n.toNat (r.b.car - r.b.rd)), 0)
  else if e = 1 then if n < 0 then (r, [], 1) else if r.cut && r.a.rd == r.a.car then (r, [], 5) else
    ({ r with a := { r.a with rd := r.a.rd + min n.toNat (r.a.car - r.a.rd) } }, (r.a.all.drop r.a.rd).take (min n.toNat (r.a.car - r.a.rd)), 0)
  else (r, [], 1)
def RPair.freeOf (r : RPair) (e : Int) : Int :=
  if e = 0 then (if r.cut || r.a.sh then 0 else (r.room - (r.a.all.length - r.a.rd) : Nat)) else if e = 1 then (if r.cut || r.b.sh then 0 else (r.room - (r.b.all.length - r.b.rd) : Nat)) else 0
def RPair.flightOf (r : RPair) (e : Int) : Int := if e = 0 then (if r.cut then 0 else (r.a.all.length - r.a.car : Nat)) else if e = 1 then (if r.cut then 0 else (r.b.all.length - r.b.car : Nat)) else 0
def RPair.inboxOf (r : RPair) (e : Int) : Int := if e = 0 then (r.b.car - r.b.rd : Nat) else if e = 1 then (r.a.car - r.a.rd : Nat) else 0
def RPair.endedOf (r : RPair) (e : Int) : Bool := if e = 0 then r.b.sh && r.b.rd == r.b.all.length else if e = 1 then r.a.sh && r.a.rd == r.a.all.length else false

theorem BI.all.three {B : BI} (h : B.all) : ∀ k ∈ [1, 5, 17], k ∈ B.errs := fun k hk => h k (by simp at hk ⊢; omega)
/-- An end is 0, 1 or none. -/
theorem end_cases (e : Int) : e = 0 ∨ e = 1 ∨ (e ≠ 0 ∧ e ≠ 1 ∧ (e == 0) = false ∧ (e == 1) = false) := by
  by_cases h0 : e = 0
  · exact .inl h0
  · by_cases h1 : e = 1
    · exact .inr (.inl h1)
    · exact .inr (.inr ⟨h0, h1, by simpa using h0, by simpa using h1⟩)

theorem sWrite_any {w : World} {R : List Asn} {B : BI} {p : Nat} {s : SPair} (hs : Sep w (base B :: pairA p s :: R)) (hok : s.ok) (hE : B.all) {A : Option Addr} {m c : Nat} {l : List UInt8} (hr : Rd w 1 (.slice A m c) m c (bv l)) (e : Int) :
    Calls Tryd.prog 12 #[.pointer (some ⟨p, 0, none⟩), .int .i64 e, .slice A m c] w fun r w' => r = .returned (.tuple #[.int .i64 (s.write e l).2.1, errV B (s.write e l).2.2]) ∧ Sep w' (base B :: pairA p (s.write e l).1 :: R) := by
  rcases end_cases e with rfl | rfl | ⟨h0, h1, h2, h3⟩
  · obtain ⟨room, ⟨f0, i0, s0, n0⟩, b, cut⟩ := s
    cases cut
    · cases s0
      · exact write_ok0 hs hok rfl rfl hr _ rfl
      · exact sWrite_shut0 hs hE.three rfl rfl
    · exact sWrite_cut0 hs hE.three rfl
  · obtain ⟨room, a, ⟨f0, i0, s0, n0⟩, cut⟩ := s
    cases cut
    · cases s0
      · exact write_ok1 hs hok rfl rfl hr _ rfl
      · exact sWrite_shut1 hs hE.three rfl rfl
    · exact sWrite_cut1 hs hE.three rfl
  · rw [SPair.write, if_neg h0, if_neg h1]
    exact sWrite_no hs hE.three e h2 h3
theorem rWrite_any {w : World} {R : List Asn} {B : BI} {q : Nat} {r : RPair} (hs : Sep w (base B :: refA q r :: R)) (hok : r.ok) {A : Option Addr} {m c : Nat} {l : List UInt8} (hr : Rd w 1 (.slice A m c) m c (bv l)) (e : Int) :
    Calls Tryd.prog 13 #[.pointer (some ⟨q, 0, none⟩), .int .i64 e, .slice A m c] w fun x w' => x = .returned (.tuple #[.int .i64 (r.write e l).2.1, .int .i64 (r.write e l).2.2]) ∧ Sep w' (base B :: refA q (r.write e l).1 :: R) := by
  rcases end_cases e with rfl | rfl | ⟨h0, h1, h2, h3⟩
  · obtain ⟨room, ⟨f0, i0, n0, s0⟩, b, cut⟩ := r
    cases cut
    · cases s0
      · exact rWrite_ok0 hs hok rfl rfl hr _ rfl
      · exact rWrite_shut0 hs _ rfl rfl
    · exact rWrite_cut0 hs _ rfl
  · obtain ⟨room, a, ⟨f0, i0, n0, s0⟩, cut⟩ := r
    cases cut
    · cases s0
      · exact rWrite_ok1 hs hok rfl rfl hr _ rfl
      · exact rWrite_shut1 hs _ rfl rfl
    · exact rWrite_cut1 hs _ rfl
  · rw [RPair.write, if_neg h0, if_neg h1]
    exact rWrite_no hs _ e h2 h3
theorem sShut_any {w : World} {R : List Asn} {B : BI} {p : Nat} {s : SPair} (hs : Sep w (base B :: pairA p s :: R)) (hE : B.all) (e : Int) :
    Calls Tryd.prog 16 #[.pointer (some ⟨p, 0, none⟩), .int .i64 e] w fun r w' => r = .returned (errV B (s.shut e).2) ∧ Sep w' (base B :: pairA p (s.shut e).1 :: R) := by
  rcases end_cases e with rfl | rfl | ⟨h0, h1, h2, h3⟩
  · obtain ⟨room, a, b, cut⟩ := s
    cases cut
    · exact sShut_ok0 hs rfl
    · exact sShut_cut0 hs hE.three rfl
  · obtain ⟨room, a, b, cut⟩ := s
    cases cut
    · exact sShut_ok1 hs rfl
    · exact sShut_cut1 hs hE.three rfl
  · rw [SPair.shut, if_neg h0, if_neg h1]
    exact sShut_no hs hE.three e h2 h3
theorem rShut_any {w : World} {R : List Asn} {B : BI} {q : Nat} {r : RPair} (hs : Sep w (base B :: refA q r :: R)) (e : Int) :
    Calls Tryd.prog 17 #[.pointer (some ⟨q, 0, none⟩), .int .i64 e] w fun x w' => x = .returned (.int .i64 (r.shut e).2) ∧ Sep w' (base B :: refA q (r.shut e).1 :: R) := by
  rcases end_cases e with rfl | rfl | ⟨h0, h1, h2, h3⟩
  · obtain ⟨room, a, b, cut⟩ := r
    cases cut
    · exact rShut_ok0 hs rfl
    · exact rShut_cut0 hs rfl
  · obtain ⟨room, a, b, cut⟩ := r
    cases cut
    · exact rShut_ok1 hs rfl
    · exact rShut_cut1 hs rfl
  · rw [RPair.shut, if_neg h0, if_neg h1]
    exact rShut_no hs e h2 h3
theorem sCarry_any {w : World} {R : List Asn} {B : BI} {p : Nat} {s : SPair} (hs : Sep w (base B :: pairA p s :: R)) (hok : s.ok) (hE : B.all) (e n : Int) :
    Calls Tryd.prog 18 #[.pointer (some ⟨p, 0, none⟩), .int .i64 e, .int .i64 n] w fun r w' => r = .returned (.tuple #[.int .i64 (s.carry e n).2.1, errV B (s.carry e n).2.2]) ∧ Sep w' (base B :: pairA p (s.carry e n).1 :: R) := by
  rcases end_cases e with rfl | rfl | ⟨h0, h1, h2, h3⟩
  · by_cases hn : n < 0
    · rw [SPair.carry, if_pos rfl, if_pos hn]
      exact sCarry_neg0 hs hE.three n hn
    · rw [SPair.carry, if_pos rfl, if_neg hn]
      obtain ⟨k, rfl⟩ := Int.eq_ofNat_of_zero_le (by omega : 0 ≤ n)
      obtain ⟨room, a, b, cut⟩ := s
      cases cut
      · exact sCarry_ok0 hs hok rfl k _ rfl
      · exact sCarry_cut0 hs hE.three _ rfl (by omega)
  · by_cases hn : n < 0
    · rw [SPair.carry, if_neg (by decide), if_pos rfl, if_pos hn]
      exact sCarry_neg1 hs hE.three n hn
    · rw [SPair.carry, if_neg (by decide), if_pos rfl, if_neg hn]
      obtain ⟨k, rfl⟩ := Int.eq_ofNat_of_zero_le (by omega : 0 ≤ n)
      obtain ⟨room, a, b, cut⟩ := s
      cases cut
      · exact sCarry_ok1 hs hok rfl k _ rfl
      · exact sCarry_cut1 hs hE.three _ rfl (by omega)
  · rw [SPair.carry, if_neg h0, if_neg h1]
    exact sCarry_no hs hE.three n e h2 h3
theorem rCarry_any {w : World} {R : List Asn} {B : BI} {q : Nat} {r : RPair} (hs : Sep w (base B :: refA q r :: R)) (hok : r.ok) (e n : Int) :
    Calls Tryd.prog 19 #[.pointer (some ⟨q, 0, none⟩), .int .i64 e, .int .i64 n] w fun x w' => x = .returned (.tuple #[.int .i64 (r.carry e n).2.1, .int .i64 (r.carry e n).2.2]) ∧ Sep w' (base B :: refA q (r.carry e n).1 :: R) := by
  rcases end_cases e with rfl | rfl | ⟨h0, h1, h2, h3⟩
  · by_cases hn : n < 0
    · rw [RPair.carry, if_pos rfl, if_pos hn]
      exact rCarry_neg0 hs n hn
    · rw [RPair.carry, if_pos rfl, if_neg hn]
      obtain ⟨k, rfl⟩ := Int.eq_ofNat_of_zero_le (by omega : 0 ≤ n)
      obtain ⟨room, a, b, cut⟩ := r
      cases cut
      · exact rCarry_ok0 hs hok rfl k _ rfl
      · exact rCarry_cut0 hs _ rfl (by omega)
  · by_cases hn : n < 0
    · rw [RPair.carry, if_neg (by decide), if_pos rfl, if_pos hn]
      exact rCarry_neg1 hs n hn
    · rw [RPair.carry, if_neg (by decide), if_pos rfl, if_neg hn]
      obtain ⟨k, rfl⟩ := Int.eq_ofNat_of_zero_le (by omega : 0 ≤ n)
      obtain ⟨room, a, b, cut⟩ := r
      cases cut
      · exact rCarry_ok1 hs hok rfl k _ rfl
      · exact rCarry_cut1 hs _ rfl (by omega)
  · rw [RPair.carry, if_neg h0, if_neg h1]
    exact rCarry_no hs n e h2 h3
theorem sRead_any {w : World} {R : List Asn} {B : BI} {p : Nat} {s : SPair} (hs : Sep w (base B :: pairA p s :: R)) (hok : s.ok) (hE : B.all) (e n : Int) :
    Calls Tryd.prog 20 #[.pointer (some ⟨p, 0, none⟩), .int .i64 e, .int .i64 n] w fun r w' => ∃ A m c, r = .returned (.tuple #[.slice A m c, errV B (s.read e n).2.2]) ∧ Hid (m = (s.read e n).2.1.length) ∧ Sep w' (base B :: pairA p (s.read e n).1 :: Own 5 1 (.slice A m c) m (bv (s.read e n).2.1) :: R) := by
  have hnil : ∀ w', Sep w' (base B :: pairA p s :: R) → Sep w' (base B :: pairA p s :: Own 5 1 (.slice none 0 0) 0 (bv []) :: R) := fun w' h => Sep.re (xs := [_, _, _]) (h.own_nil 5 1) [1, 2, 0] (by decide) rfl
  rcases end_cases e with rfl | rfl | ⟨h0, h1, h2, h3⟩
  · by_cases hn : n < 0
    · rw [SPair.read, if_pos rfl, if_pos hn]
      exact (sRead_neg0 hs hE.three n hn).mono fun r w' h => ⟨none, 0, 0, h.1, hid rfl, hnil _ h.2⟩
    · rw [SPair.read, if_pos rfl, if_neg hn]
      obtain ⟨k, rfl⟩ := Int.eq_ofNat_of_zero_le (by omega : 0 ≤ n)
      by_cases hz : (s.cut && s.b.ib.isEmpty) = true
      · rw [if_pos hz]
        have hz : s.cut = true ∧ s.b.ib.isEmpty = true := by simpa using hz
        exact (sRead_cut0 hs hE.three _ hz.1 (by simpa using hz.2) (by omega)).mono fun r w' h => ⟨none, 0, 0, h.1, hid rfl, hnil _ h.2⟩
      · rw [if_neg hz]
        exact sRead_ok0 hs hok (fun h1 h2 => hz (by simp [h1, h2])) k _ rfl
  · by_cases hn : n < 0
    · rw [SPair.read, if_neg (by decide), if_pos rfl, if_pos hn]
      exact (sRead_neg1 hs hE.three n hn).mono fun r w' h => ⟨none, 0, 0, h.1, hid rfl, hnil _ h.2⟩
    · rw [SPair.read, if_neg (by decide), if_pos rfl, if_neg hn]
      obtain ⟨k, rfl⟩ := Int.eq_ofNat_of_zero_le (by omega : 0 ≤ n)
      by_cases hz : (s.cut && s.a.ib.isEmpty) = true
      · rw [if_pos hz]
        have hz : s.cut = true ∧ s.a.ib.isEmpty = true := by simpa using hz
        exact (sRead_cut1 hs hE.three _ hz.1 (by simpa using hz.2) (by omega)).mono fun r w' h => ⟨none, 0, 0, h.1, hid rfl, hnil _ h.2⟩
      · rw [if_neg hz]
        exact sRead_ok1 hs hok (fun h1 h2 => hz (by simp [h1, h2])) k _ rfl
  · rw [SPair.read, if_neg h0, if_neg h1]
    exact (sRead_no hs hE.three n e h2 h3).mono fun r w' h => ⟨none, 0, 0, h.1, hid rfl, hnil _ h.2⟩
theorem rTake_any {w : World} {R : List Asn} {B : BI} {q : Nat} {r : RPair} (hs : Sep w (base B :: refA q r :: R)) (hok : r.ok) (e n : Int) :
    Calls Tryd.prog 21 #[.pointer (some ⟨q, 0, none⟩), .int .i64 e, .int .i64 n] w fun x w' => ∃ A m c, x = .returned (.tuple #[.slice A m c, .int .i64 (r.read e n).2.2]) ∧ Sep w' (base B :: refA q (r.read e n).1 :: R) ∧ Rd w' 1 (.slice A m c) m c (bv (r.read e n).2.1) := by
  rcases end_cases e with rfl | rfl | ⟨h0, h1, h2, h3⟩
  · by_cases hn : n < 0
    · rw [RPair.read, if_pos rfl, if_pos hn]
      exact (rTake_neg0 hs n hn).mono fun r w' h => ⟨none, 0, 0, h.1, h.2, Rd.nil_ _ _⟩
    · rw [RPair.read, if_pos rfl, if_neg hn]
      obtain ⟨k, rfl⟩ := Int.eq_ofNat_of_zero_le (by omega : 0 ≤ n)
      by_cases hz : (r.cut && r.b.rd == r.b.car) = true
      · rw [if_pos hz]
        have hz : r.cut = true ∧ r.b.rd = r.b.car := by simpa using hz
        exact (rTake_cut0 hs _ hz.1 hz.2 (by omega)).mono fun r w' h => ⟨none, 0, 0, h.1, h.2, Rd.nil_ _ _⟩
      · rw [if_neg hz]
        exact rTake_ok0 hs hok (fun h1 h2 => hz (by simp [h1, h2])) k _ rfl
  · by_cases hn : n < 0
    · rw [RPair.read, if_neg (by decide), if_pos rfl, if_pos hn]
      exact (rTake_neg1 hs n hn).mono fun r w' h => ⟨none, 0, 0, h.1, h.2, Rd.nil_ _ _⟩
    · rw [RPair.read, if_neg (by decide), if_pos rfl, if_neg hn]
      obtain ⟨k, rfl⟩ := Int.eq_ofNat_of_zero_le (by omega : 0 ≤ n)
      by_cases hz : (r.cut && r.a.rd == r.a.car) = true
      · rw [if_pos hz]
        have hz : r.cut = true ∧ r.a.rd = r.a.car := by simpa using hz
        exact (rTake_cut1 hs _ hz.1 hz.2 (by omega)).mono fun r w' h => ⟨none, 0, 0, h.1, h.2, Rd.nil_ _ _⟩
      · rw [if_neg hz]
        exact rTake_ok1 hs hok (fun h1 h2 => hz (by simp [h1, h2])) k _ rfl
  · rw [RPair.read, if_neg h0, if_neg h1]
    exact (rTake_no hs n e h2 h3).mono fun r w' h => ⟨none, 0, 0, h.1, h.2, Rd.nil_ _ _⟩
theorem sRoom_any {w : World} {R : List Asn} {B : BI} {p : Nat} {s : SPair} (hs : Sep w (base B :: pairA p s :: R)) (hok : s.ok) (e : Int) :
    Calls Tryd.prog 24 #[.pointer (some ⟨p, 0, none⟩), .int .i64 e] w fun x w' => x = .returned (.int .i64 (s.roomOf e)) ∧ Sep w' (base B :: pairA p s :: R) := by
  rcases end_cases e with rfl | rfl | ⟨h0, h1, h2, h3⟩
  · exact (sRoom_ok0 hs hok).mono fun x w' ⟨h, k, e⟩ => ⟨h, e ▸ hs.drewN k⟩
  · exact (sRoom_ok1 hs hok).mono fun x w' ⟨h, k, e⟩ => ⟨h, e ▸ hs.drewN k⟩
  · rw [SPair.roomOf, if_neg h0, if_neg h1]
    exact (sRoom_no hs e h2 h3).mono fun x w' ⟨h, e⟩ => ⟨h, e ▸ hs⟩
theorem sFlight_any {w : World} {R : List Asn} {B : BI} {p : Nat} {s : SPair} (hs : Sep w (base B :: pairA p s :: R)) (hok : s.ok) (e : Int) :
    Calls Tryd.prog 26 #[.pointer (some ⟨p, 0, none⟩), .int .i64 e] w fun x w' => x = .returned (.int .i64 (s.flightOf e)) ∧ Sep w' (base B :: pairA p s :: R) := by
  rcases end_cases e with rfl | rfl | ⟨h0, h1, h2, h3⟩
  · exact (sFlight_ok0 hs).mono fun x w' ⟨h, e⟩ => ⟨h, e ▸ hs⟩
  · exact (sFlight_ok1 hs).mono fun x w' ⟨h, e⟩ => ⟨h, e ▸ hs⟩
  · rw [SPair.flightOf, if_neg h0, if_neg h1]
    exact (sFlight_no hs e h2 h3).mono fun x w' ⟨h, e⟩ => ⟨h, e ▸ hs⟩
theorem sInbox_any {w : World} {R : List Asn} {B : BI} {p : Nat} {s : SPair} (hs : Sep w (base B :: pairA p s :: R)) (hok : s.ok) (e : Int) :
    Calls Tryd.prog 28 #[.pointer (some ⟨p, 0, none⟩), .int .i64 e] w fun x w' => x = .returned (.int .i64 (s.inboxOf e)) ∧ Sep w' (base B :: pairA p s :: R) := by
  rcases end_cases e with rfl | rfl | ⟨h0, h1, h2, h3⟩
  · exact (sInbox_ok0 hs).mono fun x w' ⟨h, e⟩ => ⟨h, e ▸ hs⟩
  · exact (sInbox_ok1 hs).mono fun x w' ⟨h, e⟩ => ⟨h, e ▸ hs⟩
  · rw [SPair.inboxOf, if_neg h0, if_neg h1]
    exact (sInbox_no hs e h2 h3).mono fun x w' ⟨h, e⟩ => ⟨h, e ▸ hs⟩
theorem sEnded_any {w : World} {R : List Asn} {B : BI} {p : Nat} {s : SPair} (hs : Sep w (base B :: pairA p s :: R)) (hok : s.ok) (e : Int) :
    Calls Tryd.prog 30 #[.pointer (some ⟨p, 0, none⟩), .int .i64 e] w fun x w' => x = .returned (.bool (s.endedOf e)) ∧ Sep w' (base B :: pairA p s :: R) := by
  rcases end_cases e with rfl | rfl | ⟨h0, h1, h2, h3⟩
  · exact (sEnded_ok0 hs hok).mono fun x w' ⟨h, k, e⟩ => ⟨h, e ▸ hs.drewN k⟩
  · exact (sEnded_ok1 hs hok).mono fun x w' ⟨h, k, e⟩ => ⟨h, e ▸ hs.drewN k⟩
  · rw [SPair.endedOf, if_neg h0, if_neg h1]
    exact (sEnded_no hs e h2 h3).mono fun x w' ⟨h, e⟩ => ⟨h, e ▸ hs⟩
theorem rFree_any {w : World} {R : List Asn} {B : BI} {q : Nat} {r : RPair} (hs : Sep w (base B :: refA q r :: R)) (hok : r.ok) (e : Int) :
    Calls Tryd.prog 25 #[.pointer (some ⟨q, 0, none⟩), .int .i64 e] w fun x w' => x = .returned (.int .i64 (r.freeOf e)) ∧ Sep w' (base B :: refA q r :: R) := by
  rcases end_cases e with rfl | rfl | ⟨h0, h1, h2, h3⟩
  · exact (rFree_ok0 hs hok).mono fun x w' ⟨h, k, e⟩ => ⟨h, e ▸ hs.drewN k⟩
  · exact (rFree_ok1 hs hok).mono fun x w' ⟨h, k, e⟩ => ⟨h, e ▸ hs.drewN k⟩
  · rw [RPair.freeOf, if_neg h0, if_neg h1]
    exact (rFree_no hs e h2 h3).mono fun x w' ⟨h, e⟩ => ⟨h, e ▸ hs⟩
theorem rFlight_any {w : World} {R : List Asn} {B : BI} {q : Nat} {r : RPair} (hs : Sep w (base B :: refA q r :: R)) (hok : r.ok) (e : Int) :
    Calls Tryd.prog 27 #[.pointer (some ⟨q, 0, none⟩), .int .i64 e] w fun x w' => x = .returned (.int .i64 (r.flightOf e)) ∧ Sep w' (base B :: refA q r :: R) := by
  rcases end_cases e with rfl | rfl | ⟨h0, h1, h2, h3⟩
  · exact (rFlight_ok0 hs hok).mono fun x w' ⟨h, k, e⟩ => ⟨h, e ▸ hs.drewN k⟩
  · exact (rFlight_ok1 hs hok).mono fun x w' ⟨h, k, e⟩ => ⟨h, e ▸ hs.drewN k⟩
  · rw [RPair.flightOf, if_neg h0, if_neg h1]
    exact (rFlight_no hs e h2 h3).mono fun x w' ⟨h, e⟩ => ⟨h, e ▸ hs⟩
theorem rInbox_any {w : World} {R : List Asn} {B : BI} {q : Nat} {r : RPair} (hs : Sep w (base B :: refA q r :: R)) (hok : r.ok) (e : Int) :
    Calls Tryd.prog 29 #[.pointer (some ⟨q, 0, none⟩), .int .i64 e] w fun x w' => x = .returned (.int .i64 (r.inboxOf e)) ∧ Sep w' (base B :: refA q r :: R) := by
  rcases end_cases e with rfl | rfl | ⟨h0, h1, h2, h3⟩
  · exact (rInbox_ok0 hs hok).mono fun x w' ⟨h, k, e⟩ => ⟨h, e ▸ hs.drewN k⟩
  · exact (rInbox_ok1 hs hok).mono fun x w' ⟨h, k, e⟩ => ⟨h, e ▸ hs.drewN k⟩
  · rw [RPair.inboxOf, if_neg h0, if_neg h1]
    exact (rInbox_no hs e h2 h3).mono fun x w' ⟨h, e⟩ => ⟨h, e ▸ hs⟩
theorem rEnded_any {w : World} {R : List Asn} {B : BI} {q : Nat} {r : RPair} (hs : Sep w (base B :: refA q r :: R)) (hok : r.ok) (e : Int) :
    Calls Tryd.prog 31 #[.pointer (some ⟨q, 0, none⟩), .int .i64 e] w fun x w' => x = .returned (.bool (r.endedOf e)) ∧ Sep w' (base B :: refA q r :: R) := by
  rcases end_cases e with rfl | rfl | ⟨h0, h1, h2, h3⟩
  · exact (rEnded_ok0 hs hok).mono fun x w' h => h
  · exact (rEnded_ok1 hs hok).mono fun x w' h => h
  · rw [RPair.endedOf, if_neg h0, if_neg h1]
    exact (rEnded_no hs e h2 h3).mono fun x w' ⟨h, e⟩ => ⟨h, e ▸ hs⟩
end Go.Proofs.YtgegpjkihbhndaaDoor
