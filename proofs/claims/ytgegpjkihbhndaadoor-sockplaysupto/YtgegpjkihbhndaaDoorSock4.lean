/- What is proved: what Read and Cut of package sock compute. Conditions: its memory is as 'pairA' says. -/
import Derived.Test.YtgegpjkihbhndaaDoorSock
import Derived.Handy
namespace Go.Proofs.YtgegpjkihbhndaaDoor
open Go.RowKit
set_option linter.unusedVariables false


set_option maxHeartbeats 1600000 in
set_option maxRecDepth 100000 in
theorem sRead_ok0 {w : World} {R : List Asn} {B : BI} {p : Nat} {s : SPair} (hs : Sep w (base B :: pairA p s :: R)) (hok : s.ok) (hne : s.cut = true → s.b.ib ≠ []) (n : Nat) (k : Nat) (hk : k = min n s.b.ib.length) :
    Calls Tryd.prog 20 #[.pointer (some ⟨p, 0, none⟩), .int .i64 0, .int .i64 n] w fun r w' => ∃ A m c, r = .returned (.tuple #[.slice A m c, .nilIface]) ∧ Hid (m = (s.b.ib.take k).length) ∧
      Sep w' (base B :: pairA p { s with b := { s.b with ib := s.b.ib.drop k } } :: Own 5 1 (.slice A m c) m (bv (s.b.ib.take k)) :: R) := by
  obtain ⟨room, ⟨f0, i0, s0, n0⟩, ⟨f1, i1, s1, n1⟩, cut⟩ := s
  obtain ⟨A0, A1, A2, A3, c0, c1, c2, c3, h⟩ := pair_open hs
  dsimp only at *
  obtain ⟨q1, q2, q3⟩ := hok
  simp only [SWay.ok] at q1 q2 q3
  have hkl : k ≤ i1.length := by omega
  have hib := (h.f5).rdB.2
  have hle := hib.le
  have hmx : c3 ≤ 9223372036854775807 := hib.max
  have b3 : k ≤ c3 := by omega
  have hr1 : Rd w 1 (.slice A3 k c3) k c3 (bv (i1.take k)) := by rw [bv_take]; exact hib.take hkl
  have H := hid h
  have hg : cut = false ∨ (cut = true ∧ ((i1.length : Int) == 0) = false) := by
    cases cut
    · exact .inl rfl
    · refine .inr ⟨rfl, ?_⟩
      have := hne rfl
      cases hi : i1 with
      | nil => exact absurd hi this
      | cons a l => simp; omega
  obtain ⟨hc, hf⟩ := h.swap.cells
  clear h hib hne
  have Hkl := hid hkl
  clear hkl
  by_cases hm : n ≤ i1.length
  · obtain rfl : k = n := by omega
    clear hk
    rcases hg with rfl | ⟨rfl, hg⟩
    all_goals
      obtain ⟨Ad, nd, cd, hnd, hsl, hrd, _⟩ := drop_any slU8 A3 i1.length c3 (k) .i64 Hkl.out
      go_enter Tryd.func20, Tryd.ntmps20
      go_wp2_with (first | (go_at_call 45; go_in) | (go_at_call 46; go_in) | (go_at_call 50; go_in))
      refine (clone_any H.out hr1 (by omega)).mono ?_
      rintro r w9 ⟨A9, m9, c9, rfl, hm9, h9⟩
      clear hc hf hr1
      obtain ⟨hc9, hf9⟩ := h9.f2.cells
      have H9 := hid h9
      clear h9
      go_wp2_with fail
      have h9 := H9.out
      have hfl2 := hrd _ _ h9.f6.rdB.2
      rw [← bv_drop] at hfl2
      refine (clone_any h9 hfl2 (by have := hnd.out; omega)).mono ?_
      rintro r w10 ⟨A10, m10, c10, rfl, hm10, h11⟩
      clear hc9 hf9 hfl2 h9 H9
      obtain ⟨hc10, hf10⟩ := h11.f3.cells
      have H11 := hid h11
      clear h11
      go_wp2
      go_ret2
      refine ⟨A9, m9, c9, by simp, hm9, ?_⟩
      have h12 := (H11.out.f3.store 6 (.slice A10 m10 c10)).f7.tail
      obtain rfl := hm10.out
      exact pair_close (Sep.re (xs := [_, _, _, _, _, _, _]) h12 [3, 0, 4, 5, 6, 1, 2] (by decide) rfl)
  · obtain rfl : k = i1.length := by have := Hkl.out; omega
    clear hk b3
    rcases hg with rfl | ⟨rfl, hg⟩
    all_goals
      obtain ⟨Ad, nd, cd, hnd, hsl, hrd, _⟩ := drop_any slU8 A3 i1.length c3 (i1.length) .i64 Hkl.out
      go_enter Tryd.func20, Tryd.ntmps20
      go_wp2_with (first | (go_at_call 45; go_in) | (go_at_call 46; go_in) | (go_at_call 50; go_in))
      refine (clone_any H.out hr1 (by omega)).mono ?_
      rintro r w9 ⟨A9, m9, c9, rfl, hm9, h9⟩
      clear hc hf hr1
      obtain ⟨hc9, hf9⟩ := h9.f2.cells
      have H9 := hid h9
      clear h9
      go_wp2_with fail
      have h9 := H9.out
      have hfl2 := hrd _ _ h9.f6.rdB.2
      rw [← bv_drop] at hfl2
      refine (clone_any h9 hfl2 (by have := hnd.out; omega)).mono ?_
      rintro r w10 ⟨A10, m10, c10, rfl, hm10, h11⟩
      clear hc9 hf9 hfl2 h9 H9
      obtain ⟨hc10, hf10⟩ := h11.f3.cells
      have H11 := hid h11
      clear h11
      go_wp2
      go_ret2
      refine ⟨A9, m9, c9, by simp, hm9, ?_⟩
      have h12 := (H11.out.f3.store 6 (.slice A10 m10 c10)).f7.tail
      obtain rfl := hm10.out
      exact pair_close (Sep.re (xs := [_, _, _, _, _, _, _]) h12 [3, 0, 4, 5, 6, 1, 2] (by decide) rfl)

set_option maxHeartbeats 1600000 in
set_option maxRecDepth 100000 in
theorem sRead_ok1 {w : World} {R : List Asn} {B : BI} {p : Nat} {s : SPair} (hs : Sep w (base B :: pairA p s :: R)) (hok : s.ok) (hne : s.cut = true → s.a.ib ≠ []) (n : Nat) (k : Nat) (hk : k = min n s.a.ib.length) :
    Calls Tryd.prog 20 #[.pointer (some ⟨p, 0, none⟩), .int .i64 1, .int .i64 n] w fun r w' => ∃ A m c, r = .returned (.tuple #[.slice A m c, .nilIface]) ∧ Hid (m = (s.a.ib.take k).length) ∧
      Sep w' (base B :: pairA p { s with a := { s.a with ib := s.a.ib.drop k } } :: Own 5 1 (.slice A m c) m (bv (s.a.ib.take k)) :: R) := by
  obtain ⟨room, ⟨f0, i0, s0, n0⟩, ⟨f1, i1, s1, n1⟩, cut⟩ := s
  obtain ⟨A0, A1, A2, A3, c0, c1, c2, c3, h⟩ := pair_open hs
  dsimp only at *
  obtain ⟨q1, q2, q3⟩ := hok
  simp only [SWay.ok] at q1 q2 q3
  have hkl : k ≤ i0.length := by omega
  have hib := (h.f3).rdB.2
  have hle := hib.le
  have hmx : c1 ≤ 9223372036854775807 := hib.max
  have b3 : k ≤ c1 := by omega
  have hr1 : Rd w 1 (.slice A1 k c1) k c1 (bv (i0.take k)) := by rw [bv_take]; exact hib.take hkl
  have H := hid h
  have hg : cut = false ∨ (cut = true ∧ ((i0.length : Int) == 0) = false) := by
    cases cut
    · exact .inl rfl
    · refine .inr ⟨rfl, ?_⟩
      have := hne rfl
      cases hi : i0 with
      | nil => exact absurd hi this
      | cons a l => simp; omega
  obtain ⟨hc, hf⟩ := h.swap.cells
  clear h hib hne
  have Hkl := hid hkl
  clear hkl
  by_cases hm : n ≤ i0.length
  · obtain rfl : k = n := by omega
    clear hk
    rcases hg with rfl | ⟨rfl, hg⟩
    all_goals
      obtain ⟨Ad, nd, cd, hnd, hsl, hrd, _⟩ := drop_any slU8 A1 i0.length c1 (k) .i64 Hkl.out
      go_enter Tryd.func20, Tryd.ntmps20
      go_wp2_with (first | (go_at_call 45; go_in) | (go_at_call 46; go_in) | (go_at_call 50; go_in))
      refine (clone_any H.out hr1 (by omega)).mono ?_
      rintro r w9 ⟨A9, m9, c9, rfl, hm9, h9⟩
      clear hc hf hr1
      obtain ⟨hc9, hf9⟩ := h9.f2.cells
      have H9 := hid h9
      clear h9
      go_wp2_with fail
      have h9 := H9.out
      have hfl2 := hrd _ _ h9.f4.rdB.2
      rw [← bv_drop] at hfl2
      refine (clone_any h9 hfl2 (by have := hnd.out; omega)).mono ?_
      rintro r w10 ⟨A10, m10, c10, rfl, hm10, h11⟩
      clear hc9 hf9 hfl2 h9 H9
      obtain ⟨hc10, hf10⟩ := h11.f3.cells
      have H11 := hid h11
      clear h11
      go_wp2
      go_ret2
      refine ⟨A9, m9, c9, by simp, hm9, ?_⟩
      have h12 := (H11.out.f3.store 2 (.slice A10 m10 c10)).f5.tail
      obtain rfl := hm10.out
      exact pair_close (Sep.re (xs := [_, _, _, _, _, _, _]) h12 [3, 0, 4, 1, 5, 6, 2] (by decide) rfl)
  · obtain rfl : k = i0.length := by have := Hkl.out; omega
    clear hk b3
    rcases hg with rfl | ⟨rfl, hg⟩
    all_goals
      obtain ⟨Ad, nd, cd, hnd, hsl, hrd, _⟩ := drop_any slU8 A1 i0.length c1 (i0.length) .i64 Hkl.out
      go_enter Tryd.func20, Tryd.ntmps20
      go_wp2_with (first | (go_at_call 45; go_in) | (go_at_call 46; go_in) | (go_at_call 50; go_in))
      refine (clone_any H.out hr1 (by omega)).mono ?_
      rintro r w9 ⟨A9, m9, c9, rfl, hm9, h9⟩
      clear hc hf hr1
      obtain ⟨hc9, hf9⟩ := h9.f2.cells
      have H9 := hid h9
      clear h9
      go_wp2_with fail
      have h9 := H9.out
      have hfl2 := hrd _ _ h9.f4.rdB.2
      rw [← bv_drop] at hfl2
      refine (clone_any h9 hfl2 (by have := hnd.out; omega)).mono ?_
      rintro r w10 ⟨A10, m10, c10, rfl, hm10, h11⟩
      clear hc9 hf9 hfl2 h9 H9
      obtain ⟨hc10, hf10⟩ := h11.f3.cells
      have H11 := hid h11
      clear h11
      go_wp2
      go_ret2
      refine ⟨A9, m9, c9, by simp, hm9, ?_⟩
      have h12 := (H11.out.f3.store 2 (.slice A10 m10 c10)).f5.tail
      obtain rfl := hm10.out
      exact pair_close (Sep.re (xs := [_, _, _, _, _, _, _]) h12 [3, 0, 4, 1, 5, 6, 2] (by decide) rfl)

def SWay.gone (w : SWay) : SWay := { w with en := w.sh && w.fl.isEmpty, fl := [] }
def sCut (s : SPair) : SPair := if s.cut then s else { s with cut := true, a := s.a.gone, b := s.b.gone }
theorem sCut_yes {w : World} {R : List Asn} {B : BI} {p : Nat} {s : SPair} (hs : Sep w (base B :: pairA p s :: R)) (hcut : s.cut = true) :
    Calls Tryd.prog 22 #[.pointer (some ⟨p, 0, none⟩)] w fun r w' => r = .returned (.tuple #[]) ∧ Sep w' (base B :: pairA p s :: R) := by
  have hs0 := hs
  obtain ⟨room, ⟨f0, i0, s0, n0⟩, ⟨f1, i1, s1, n1⟩, cut⟩ := s
  obtain ⟨A0, A1, A2, A3, c0, c1, c2, c3, h⟩ := pair_open hs
  dsimp only at *
  subst hcut
  obtain ⟨hc, hf⟩ := h.swap.cells
  go_enter Tryd.func22, Tryd.ntmps22
  go_wp2
  go_returns
  exact ⟨rfl, hs0⟩


set_option maxHeartbeats 1600000 in
set_option maxRecDepth 100000 in
theorem sCut_no_true_true {w : World} {R : List Asn} {B : BI} {p : Nat} {s : SPair} (hs : Sep w (base B :: pairA p s :: R)) (hok : s.ok) (hcut : s.cut = false) (ha : s.a.sh = true) (hb : s.b.sh = true) :
    Calls Tryd.prog 22 #[.pointer (some ⟨p, 0, none⟩)] w fun r w' => r = .returned (.tuple #[]) ∧ Sep w' (base B :: pairA p { s with cut := true, a := s.a.gone, b := s.b.gone } :: R) := by
  obtain ⟨room, ⟨f0, i0, s0, n0⟩, ⟨f1, i1, s1, n1⟩, cut⟩ := s
  obtain ⟨A0, A1, A2, A3, c0, c1, c2, c3, h⟩ := pair_open hs
  dsimp only at *
  subst hcut; subst ha; subst hb
  obtain ⟨q1, q2, q3⟩ := hok
  simp only [SWay.ok] at q1 q2 q3
  obtain ⟨hc, hf⟩ := h.swap.cells
  have H := hid h
  clear h
  go_enter Tryd.func22, Tryd.ntmps22
  go_wp2
  go_rounds 3
  go_end0
  refine ⟨rfl, ?_⟩
  have e0 : ((f0.length : Int) == 0) = f0.isEmpty := by cases f0 <;> simp; omega
  have e1 : ((f1.length : Int) == 0) = f1.isEmpty := by cases f1 <;> simp; omega
  rw [e0, e1]
  have h2 := ((((H.out.swap.store 9 (.bool true)).store 4 (.bool (true && f0.isEmpty))).store 1 (.slice none 0 0)).store 8 (.bool (true && f1.isEmpty))).store 5 (.slice none 0 0)
  have h3 := ((h2.f2.tail.f3.tail).own_nil 5 1).own_nil 5 1
  exact pair_close (A0 := none) (A1 := A1) (A2 := none) (A3 := A3) (c0 := 0) (c1 := c1) (c2 := 0) (c3 := c3) (Sep.re (xs := [_, _, _, _, _, _]) h3 [3, 2, 1, 4, 0, 5] (by decide) rfl)


set_option maxHeartbeats 1600000 in
set_option maxRecDepth 100000 in
theorem sCut_no_true_false {w : World} {R : List Asn} {B : BI} {p : Nat} {s : SPair} (hs : Sep w (base B :: pairA p s :: R)) (hok : s.ok) (hcut : s.cut = false) (ha : s.a.sh = true) (hb : s.b.sh = false) :
    Calls Tryd.prog 22 #[.pointer (some ⟨p, 0, none⟩)] w fun r w' => r = .returned (.tuple #[]) ∧ Sep w' (base B :: pairA p { s with cut := true, a := s.a.gone, b := s.b.gone } :: R) := by
  obtain ⟨room, ⟨f0, i0, s0, n0⟩, ⟨f1, i1, s1, n1⟩, cut⟩ := s
  obtain ⟨A0, A1, A2, A3, c0, c1, c2, c3, h⟩ := pair_open hs
  dsimp only at *
  subst hcut; subst ha; subst hb
  obtain ⟨q1, q2, q3⟩ := hok
  simp only [SWay.ok] at q1 q2 q3
  obtain ⟨hc, hf⟩ := h.swap.cells
  have H := hid h
  clear h
  go_enter Tryd.func22, Tryd.ntmps22
  go_wp2
  go_rounds 3
  go_end0
  refine ⟨rfl, ?_⟩
  have e0 : ((f0.length : Int) == 0) = f0.isEmpty := by cases f0 <;> simp; omega
  have e1 : ((f1.length : Int) == 0) = f1.isEmpty := by cases f1 <;> simp; omega
  rw [e0]
  have h2 := ((((H.out.swap.store 9 (.bool true)).store 4 (.bool (true && f0.isEmpty))).store 1 (.slice none 0 0)).store 8 (.bool (false && f1.isEmpty))).store 5 (.slice none 0 0)
  have h3 := ((h2.f2.tail.f3.tail).own_nil 5 1).own_nil 5 1
  exact pair_close (A0 := none) (A1 := A1) (A2 := none) (A3 := A3) (c0 := 0) (c1 := c1) (c2 := 0) (c3 := c3) (Sep.re (xs := [_, _, _, _, _, _]) h3 [3, 2, 1, 4, 0, 5] (by decide) rfl)


set_option maxHeartbeats 1600000 in
set_option maxRecDepth 100000 in
theorem sCut_no_false_true {w : World} {R : List Asn} {B : BI} {p : Nat} {s : SPair} (hs : Sep w (base B :: pairA p s :: R)) (hok : s.ok) (hcut : s.cut = false) (ha : s.a.sh = false) (hb : s.b.sh = true) :
    Calls Tryd.prog 22 #[.pointer (some ⟨p, 0, none⟩)] w fun r w' => r = .returned (.tuple #[]) ∧ Sep w' (base B :: pairA p { s with cut := true, a := s.a.gone, b := s.b.gone } :: R) := by
  obtain ⟨room, ⟨f0, i0, s0, n0⟩, ⟨f1, i1, s1, n1⟩, cut⟩ := s
  obtain ⟨A0, A1, A2, A3, c0, c1, c2, c3, h⟩ := pair_open hs
  dsimp only at *
  subst hcut; subst ha; subst hb
  obtain ⟨q1, q2, q3⟩ := hok
  simp only [SWay.ok] at q1 q2 q3
  obtain ⟨hc, hf⟩ := h.swap.cells
  have H := hid h
  clear h
  go_enter Tryd.func22, Tryd.ntmps22
  go_wp2
  go_rounds 3
  go_end0
  refine ⟨rfl, ?_⟩
  have e0 : ((f0.length : Int) == 0) = f0.isEmpty := by cases f0 <;> simp; omega
  have e1 : ((f1.length : Int) == 0) = f1.isEmpty := by cases f1 <;> simp; omega
  rw [e1]
  have h2 := ((((H.out.swap.store 9 (.bool true)).store 4 (.bool (false && f0.isEmpty))).store 1 (.slice none 0 0)).store 8 (.bool (true && f1.isEmpty))).store 5 (.slice none 0 0)
  have h3 := ((h2.f2.tail.f3.tail).own_nil 5 1).own_nil 5 1
  exact pair_close (A0 := none) (A1 := A1) (A2 := none) (A3 := A3) (c0 := 0) (c1 := c1) (c2 := 0) (c3 := c3) (Sep.re (xs := [_, _, _, _, _, _]) h3 [3, 2, 1, 4, 0, 5] (by decide) rfl)


set_option maxHeartbeats 1600000 in
set_option maxRecDepth 100000 in
theorem sCut_no_false_false {w : World} {R : List Asn} {B : BI} {p : Nat} {s : SPair} (hs : Sep w (base B :: pairA p s :: R)) (hok : s.ok) (hcut : s.cut = false) (ha : s.a.sh = false) (hb : s.b.sh = false) :
    Calls Tryd.prog 22 #[.pointer (some ⟨p, 0, none⟩)] w fun r w' => r = .returned (.tuple #[]) ∧ Sep w' (base B :: pairA p { s with cut := true, a := s.a.gone, b := s.b.gone } :: R) := by
  obtain ⟨room, ⟨f0, i0, s0, n0⟩, ⟨f1, i1, s1, n1⟩, cut⟩ := s
  obtain ⟨A0, A1, A2, A3, c0, c1, c2, c3, h⟩ := pair_open hs
  dsimp only at *
  subst hcut; subst ha; subst hb
  obtain ⟨q1, q2, q3⟩ := hok
  simp only [SWay.ok] at q1 q2 q3
  obtain ⟨hc, hf⟩ := h.swap.cells
  have H := hid h
  clear h
  go_enter Tryd.func22, Tryd.ntmps22
  go_wp2
  go_rounds 3
  go_end0
  refine ⟨rfl, ?_⟩
  have e0 : ((f0.length : Int) == 0) = f0.isEmpty := by cases f0 <;> simp; omega
  have e1 : ((f1.length : Int) == 0) = f1.isEmpty := by cases f1 <;> simp; omega
  skip
  have h2 := ((((H.out.swap.store 9 (.bool true)).store 4 (.bool (false && f0.isEmpty))).store 1 (.slice none 0 0)).store 8 (.bool (false && f1.isEmpty))).store 5 (.slice none 0 0)
  have h3 := ((h2.f2.tail.f3.tail).own_nil 5 1).own_nil 5 1
  exact pair_close (A0 := none) (A1 := A1) (A2 := none) (A3 := A3) (c0 := 0) (c1 := c1) (c2 := 0) (c3 := c3) (Sep.re (xs := [_, _, _, _, _, _]) h3 [3, 2, 1, 4, 0, 5] (by decide) rfl)


theorem sCut_any {w : World} {R : List Asn} {B : BI} {p : Nat} {s : SPair} (hs : Sep w (base B :: pairA p s :: R)) (hok : s.ok) :
    Calls Tryd.prog 22 #[.pointer (some ⟨p, 0, none⟩)] w fun r w' => r = .returned (.tuple #[]) ∧ Sep w' (base B :: pairA p (sCut s) :: R) := by
  unfold sCut
  by_cases hc : s.cut = true
  · rw [if_pos hc]; exact sCut_yes hs hc
  · have hc' : s.cut = false := by simpa using hc
    rw [if_neg hc]
    cases ha : s.a.sh <;> cases hb : s.b.sh
    · exact sCut_no_false_false hs hok hc' ha hb
    · exact sCut_no_false_true hs hok hc' ha hb
    · exact sCut_no_true_false hs hok hc' ha hb
    · exact sCut_no_true_true hs hok hc' ha hb

end Go.Proofs.YtgegpjkihbhndaaDoor