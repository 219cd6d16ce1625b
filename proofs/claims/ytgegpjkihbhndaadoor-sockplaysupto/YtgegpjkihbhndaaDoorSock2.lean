/- What is proved: what each function of package sock computes, the calls that succeed. Conditions: its memory is as 'pairA' says. -/
import Derived.Test.YtgegpjkihbhndaaDoorSock
import Derived.Handy
namespace Go.Proofs.YtgegpjkihbhndaaDoor
open Go.RowKit
set_option linter.unusedVariables false


theorem sShut_ok0 {w : World} {R : List Asn} {B : BI} {p : Nat} {s : SPair} (hs : Sep w (base B :: pairA p s :: R)) (hcut : s.cut = false) :
    Calls Tryd.prog 16 #[.pointer (some ⟨p, 0, none⟩), .int .i64 0] w fun r w' => r = .returned .nilIface ∧ Sep w' (base B :: pairA p { s with a := { s.a with sh := true } } :: R) := by
  obtain ⟨room, ⟨f0, i0, s0, n0⟩, ⟨f1, i1, s1, n1⟩, cut⟩ := s
  obtain ⟨A0, A1, A2, A3, c0, c1, c2, c3, h⟩ := pair_open hs
  dsimp only at *
  subst hcut
  obtain ⟨hc, hf⟩ := h.swap.cells
  go_enter Tryd.func16, Tryd.ntmps16
  go_wp2_with (first | (go_at_call 45; go_in) | (go_at_call 46; go_in) | (go_at_call 50; go_in))
  go_ret
  exact ⟨rfl, pair_close (h.swap.store (1 + 2) (.bool true)).swap⟩

theorem sFlight_ok0 {w : World} {R : List Asn} {B : BI} {p : Nat} {s : SPair} (hs : Sep w (base B :: pairA p s :: R)) :
    Calls Tryd.prog 26 #[.pointer (some ⟨p, 0, none⟩), .int .i64 0] w fun r w' => r = .returned (.int .i64 s.a.fl.length) ∧ w = w' := by
  obtain ⟨room, ⟨f0, i0, s0, n0⟩, ⟨f1, i1, s1, n1⟩, cut⟩ := s
  obtain ⟨A0, A1, A2, A3, c0, c1, c2, c3, h⟩ := pair_open hs
  dsimp only at *
  obtain ⟨hc, hf⟩ := h.swap.cells
  go_enter Tryd.func26, Tryd.ntmps26
  go_wp2_with (first | (go_at_call 45; go_in) | (go_at_call 46; go_in) | (go_at_call 50; go_in))
  go_ret
  exact ⟨rfl, rfl⟩
theorem sInbox_ok0 {w : World} {R : List Asn} {B : BI} {p : Nat} {s : SPair} (hs : Sep w (base B :: pairA p s :: R)) :
    Calls Tryd.prog 28 #[.pointer (some ⟨p, 0, none⟩), .int .i64 0] w fun r w' => r = .returned (.int .i64 s.b.ib.length) ∧ w = w' := by
  obtain ⟨room, ⟨f0, i0, s0, n0⟩, ⟨f1, i1, s1, n1⟩, cut⟩ := s
  obtain ⟨A0, A1, A2, A3, c0, c1, c2, c3, h⟩ := pair_open hs
  dsimp only at *
  obtain ⟨hc, hf⟩ := h.swap.cells
  go_enter Tryd.func28, Tryd.ntmps28
  go_wp2_with (first | (go_at_call 45; go_in) | (go_at_call 46; go_in) | (go_at_call 50; go_in))
  go_ret
  exact ⟨rfl, rfl⟩
theorem sRoom_ok0 {w : World} {R : List Asn} {B : BI} {p : Nat} {s : SPair} (hs : Sep w (base B :: pairA p s :: R)) (hok : s.ok) :
    Calls Tryd.prog 24 #[.pointer (some ⟨p, 0, none⟩), .int .i64 0] w fun r w' => r = .returned (.int .i64 (if s.cut || s.a.sh then 0 else (s.room - s.a.fl.length - s.a.ib.length : Nat))) ∧ ∃ k, w' = w.drewN k := by
  obtain ⟨room, ⟨f0, i0, s0, n0⟩, ⟨f1, i1, s1, n1⟩, cut⟩ := s
  obtain ⟨A0, A1, A2, A3, c0, c1, c2, c3, h⟩ := pair_open hs
  dsimp only at *
  obtain ⟨hc, hf⟩ := h.swap.cells
  obtain ⟨q1, q2, q3⟩ := hok
  simp only [SWay.ok] at q1 q2 q3
  cases cut
  · cases s0
    · go_enter Tryd.func24, Tryd.ntmps24
      go_wp2_with (first | (go_at_call 45; go_in) | (go_at_call 46; go_in) | (go_at_call 50; go_in))
      refine (left_any _ _ _ (room - f0.length - i0.length) _ _ _ _ _ _ _ (by rw [hc]; rfl) (by rw [hc]; rfl) (by rw [hc]; rfl) (by omega) (by omega)).mono ?_; rintro e w' ⟨rfl, k2, rfl⟩
      go_wp2
      go_ret
      exact ⟨by simp, _, rfl⟩
    · go_enter Tryd.func24, Tryd.ntmps24
      go_wp2_with (first | (go_at_call 45; go_in) | (go_at_call 46; go_in) | (go_at_call 50; go_in))
      go_ret
      exact ⟨by simp, 0, rfl⟩
  · go_enter Tryd.func24, Tryd.ntmps24
    go_wp2_with (first | (go_at_call 45; go_in) | (go_at_call 46; go_in) | (go_at_call 50; go_in))
    go_ret
    exact ⟨by simp, 0, rfl⟩
theorem sEnded_ok0 {w : World} {R : List Asn} {B : BI} {p : Nat} {s : SPair} (hs : Sep w (base B :: pairA p s :: R)) (hok : s.ok) :
    Calls Tryd.prog 30 #[.pointer (some ⟨p, 0, none⟩), .int .i64 0] w fun r w' => r = .returned (.bool (if s.cut then s.b.en && s.b.ib.isEmpty else s.b.sh && s.b.fl.isEmpty && s.b.ib.isEmpty)) ∧ ∃ k, w' = w.drewN k := by
  obtain ⟨room, ⟨f0, i0, s0, n0⟩, ⟨f1, i1, s1, n1⟩, cut⟩ := s
  obtain ⟨A0, A1, A2, A3, c0, c1, c2, c3, h⟩ := pair_open hs
  dsimp only at *
  obtain ⟨hc, hf⟩ := h.swap.cells
  obtain ⟨q1, q2, q3⟩ := hok
  simp only [SWay.ok] at q1 q2 q3
  cases cut
  · cases s1
    · go_enter Tryd.func30, Tryd.ntmps30
      go_wp2_with (first | (go_at_call 45; go_in) | (go_at_call 46; go_in) | (go_at_call 50; go_in))
      go_quiet (fail)
      go_wp2
      go_ret
      exact ⟨by simp, _, rfl⟩
    · go_enter Tryd.func30, Tryd.ntmps30
      go_wp2_with (first | (go_at_call 45; go_in) | (go_at_call 46; go_in) | (go_at_call 50; go_in))
      go_quiet (fail)
      go_wp2
      go_ret
      refine ⟨?_, _, rfl⟩
      cases f1 <;> cases i1 <;> simp <;> omega
  · cases n1
    · go_enter Tryd.func30, Tryd.ntmps30
      go_wp2_with (first | (go_at_call 45; go_in) | (go_at_call 46; go_in) | (go_at_call 50; go_in))
      go_ret
      exact ⟨by simp, 0, rfl⟩
    · go_enter Tryd.func30, Tryd.ntmps30
      go_wp2_with (first | (go_at_call 45; go_in) | (go_at_call 46; go_in) | (go_at_call 50; go_in))
      go_ret
      refine ⟨?_, 0, rfl⟩
      cases i1 <;> simp <;> omega


theorem sShut_ok1 {w : World} {R : List Asn} {B : BI} {p : Nat} {s : SPair} (hs : Sep w (base B :: pairA p s :: R)) (hcut : s.cut = false) :
    Calls Tryd.prog 16 #[.pointer (some ⟨p, 0, none⟩), .int .i64 1] w fun r w' => r = .returned .nilIface ∧ Sep w' (base B :: pairA p { s with b := { s.b with sh := true } } :: R) := by
  obtain ⟨room, ⟨f0, i0, s0, n0⟩, ⟨f1, i1, s1, n1⟩, cut⟩ := s
  obtain ⟨A0, A1, A2, A3, c0, c1, c2, c3, h⟩ := pair_open hs
  dsimp only at *
  subst hcut
  obtain ⟨hc, hf⟩ := h.swap.cells
  go_enter Tryd.func16, Tryd.ntmps16
  go_wp2_with (first | (go_at_call 45; go_in) | (go_at_call 46; go_in) | (go_at_call 50; go_in))
  go_ret
  exact ⟨rfl, pair_close (h.swap.store (5 + 2) (.bool true)).swap⟩

theorem sFlight_ok1 {w : World} {R : List Asn} {B : BI} {p : Nat} {s : SPair} (hs : Sep w (base B :: pairA p s :: R)) :
    Calls Tryd.prog 26 #[.pointer (some ⟨p, 0, none⟩), .int .i64 1] w fun r w' => r = .returned (.int .i64 s.b.fl.length) ∧ w = w' := by
  obtain ⟨room, ⟨f0, i0, s0, n0⟩, ⟨f1, i1, s1, n1⟩, cut⟩ := s
  obtain ⟨A0, A1, A2, A3, c0, c1, c2, c3, h⟩ := pair_open hs
  dsimp only at *
  obtain ⟨hc, hf⟩ := h.swap.cells
  go_enter Tryd.func26, Tryd.ntmps26
  go_wp2_with (first | (go_at_call 45; go_in) | (go_at_call 46; go_in) | (go_at_call 50; go_in))
  go_ret
  exact ⟨rfl, rfl⟩
theorem sInbox_ok1 {w : World} {R : List Asn} {B : BI} {p : Nat} {s : SPair} (hs : Sep w (base B :: pairA p s :: R)) :
    Calls Tryd.prog 28 #[.pointer (some ⟨p, 0, none⟩), .int .i64 1] w fun r w' => r = .returned (.int .i64 s.a.ib.length) ∧ w = w' := by
  obtain ⟨room, ⟨f0, i0, s0, n0⟩, ⟨f1, i1, s1, n1⟩, cut⟩ := s
  obtain ⟨A0, A1, A2, A3, c0, c1, c2, c3, h⟩ := pair_open hs
  dsimp only at *
  obtain ⟨hc, hf⟩ := h.swap.cells
  go_enter Tryd.func28, Tryd.ntmps28
  go_wp2_with (first | (go_at_call 45; go_in) | (go_at_call 46; go_in) | (go_at_call 50; go_in))
  go_ret
  exact ⟨rfl, rfl⟩
theorem sRoom_ok1 {w : World} {R : List Asn} {B : BI} {p : Nat} {s : SPair} (hs : Sep w (base B :: pairA p s :: R)) (hok : s.ok) :
    Calls Tryd.prog 24 #[.pointer (some ⟨p, 0, none⟩), .int .i64 1] w fun r w' => r = .returned (.int .i64 (if s.cut || s.b.sh then 0 else (s.room - s.b.fl.length - s.b.ib.length : Nat))) ∧ ∃ k, w' = w.drewN k := by
  obtain ⟨room, ⟨f0, i0, s0, n0⟩, ⟨f1, i1, s1, n1⟩, cut⟩ := s
  obtain ⟨A0, A1, A2, A3, c0, c1, c2, c3, h⟩ := pair_open hs
  dsimp only at *
  obtain ⟨hc, hf⟩ := h.swap.cells
  obtain ⟨q1, q2, q3⟩ := hok
  simp only [SWay.ok] at q1 q2 q3
  cases cut
  · cases s1
    · go_enter Tryd.func24, Tryd.ntmps24
      go_wp2_with (first | (go_at_call 45; go_in) | (go_at_call 46; go_in) | (go_at_call 50; go_in))
      refine (left_any _ _ _ (room - f1.length - i1.length) _ _ _ _ _ _ _ (by rw [hc]; rfl) (by rw [hc]; rfl) (by rw [hc]; rfl) (by omega) (by omega)).mono ?_; rintro e w' ⟨rfl, k2, rfl⟩
      go_wp2
      go_ret
      exact ⟨by simp, _, rfl⟩
    · go_enter Tryd.func24, Tryd.ntmps24
      go_wp2_with (first | (go_at_call 45; go_in) | (go_at_call 46; go_in) | (go_at_call 50; go_in))
      go_ret
      exact ⟨by simp, 0, rfl⟩
  · go_enter Tryd.func24, Tryd.ntmps24
    go_wp2_with (first | (go_at_call 45; go_in) | (go_at_call 46; go_in) | (go_at_call 50; go_in))
    go_ret
    exact ⟨by simp, 0, rfl⟩
theorem sEnded_ok1 {w : World} {R : List Asn} {B : BI} {p : Nat} {s : SPair} (hs : Sep w (base B :: pairA p s :: R)) (hok : s.ok) :
    Calls Tryd.prog 30 #[.pointer (some ⟨p, 0, none⟩), .int .i64 1] w fun r w' => r = .returned (.bool (if s.cut then s.a.en && s.a.ib.isEmpty else s.a.sh && s.a.fl.isEmpty && s.a.ib.isEmpty)) ∧ ∃ k, w' = w.drewN k := by
  obtain ⟨room, ⟨f0, i0, s0, n0⟩, ⟨f1, i1, s1, n1⟩, cut⟩ := s
  obtain ⟨A0, A1, A2, A3, c0, c1, c2, c3, h⟩ := pair_open hs
  dsimp only at *
  obtain ⟨hc, hf⟩ := h.swap.cells
  obtain ⟨q1, q2, q3⟩ := hok
  simp only [SWay.ok] at q1 q2 q3
  cases cut
  · cases s0
    · go_enter Tryd.func30, Tryd.ntmps30
      go_wp2_with (first | (go_at_call 45; go_in) | (go_at_call 46; go_in) | (go_at_call 50; go_in))
      go_quiet (fail)
      go_wp2
      go_ret
      exact ⟨by simp, _, rfl⟩
    · go_enter Tryd.func30, Tryd.ntmps30
      go_wp2_with (first | (go_at_call 45; go_in) | (go_at_call 46; go_in) | (go_at_call 50; go_in))
      go_quiet (fail)
      go_wp2
      go_ret
      refine ⟨?_, _, rfl⟩
      cases f0 <;> cases i0 <;> simp <;> omega
  · cases n0
    · go_enter Tryd.func30, Tryd.ntmps30
      go_wp2_with (first | (go_at_call 45; go_in) | (go_at_call 46; go_in) | (go_at_call 50; go_in))
      go_ret
      exact ⟨by simp, 0, rfl⟩
    · go_enter Tryd.func30, Tryd.ntmps30
      go_wp2_with (first | (go_at_call 45; go_in) | (go_at_call 46; go_in) | (go_at_call 50; go_in))
      go_ret
      refine ⟨?_, 0, rfl⟩
      cases i0 <;> simp <;> omega


theorem sBroken_any {w : World} {R : List Asn} {B : BI} {p : Nat} {s : SPair} (hs : Sep w (base B :: pairA p s :: R)) :
    Calls Tryd.prog 23 #[.pointer (some ⟨p, 0, none⟩)] w fun r w' => r = .returned (.bool s.cut) ∧ w = w' := by
  obtain ⟨room, ⟨f0, i0, s0, n0⟩, ⟨f1, i1, s1, n1⟩, cut⟩ := s
  obtain ⟨A0, A1, A2, A3, c0, c1, c2, c3, h⟩ := pair_open hs
  dsimp only at *
  obtain ⟨hc, hf⟩ := h.swap.cells
  go_enter Tryd.func23, Tryd.ntmps23
  go_wp2
  go_ret
  exact ⟨rfl, rfl⟩
theorem sNew_ok {w : World} {R : List Asn} {B : BI} (hs : Sep w (base B :: R)) (room : Nat) (h1 : 1 ≤ room) (h2 : room ≤ 65536) :
    Calls Tryd.prog 10 #[.int .i64 room] w fun r w' => ∃ p, r = .returned (.tuple #[.pointer (some ⟨p, 0, none⟩), .nilIface]) ∧ Sep w' (base B :: pairA p ⟨room, ⟨[], [], false, false⟩, ⟨[], [], false, false⟩, false⟩ :: R) := by
  go_enter Tryd.func10, Tryd.ntmps10
  go_wp2
  go_ret2
  refine ⟨w.heap.size, rfl, ?_⟩
  have h3 := ((((hs.alloc 83 #[.int .i64 room, .slice none 0 0, .slice none 0 0, .bool false, .bool false, .slice none 0 0, .slice none 0 0, .bool false, .bool false, .bool false]).own_nil 5 1).own_nil 5 1).own_nil 5 1).own_nil 5 1
  exact pair_close (A0 := none) (A1 := none) (A2 := none) (A3 := none) (c0 := 0) (c1 := 0) (c2 := 0) (c3 := 0) (Sep.re (xs := [_, _, _, _, _, _]) h3 [5, 4, 0, 1, 2, 3] (by decide) rfl)
theorem sNew_no {w : World} {R : List Asn} {B : BI} (hs : Sep w (base B :: R)) (hE : ∀ k ∈ [1, 5, 17], k ∈ B.errs) (room : Int) (h : room < 1 ∨ 65536 < room) :
    Calls Tryd.prog 10 #[.int .i64 room] w fun r w' => r = .returned (.tuple #[.pointer none, errV B 1]) ∧ Sep w' (base B :: R) := by
  have e1 : World.cell? _ ⟨0, 0, none⟩ = some (.iface 178 (.pointer (some (B.E 1)))) := Sep.err hs 1 (hE 1 (by decide))
  rcases h with h | h
  all_goals
    go_enter Tryd.func10, Tryd.ntmps10
    go_wp2
    all_goals (go_quiet (fail); go_wp2; go_ret2; exact ⟨rfl, hs.drewN _⟩)

end Go.Proofs.YtgegpjkihbhndaaDoor