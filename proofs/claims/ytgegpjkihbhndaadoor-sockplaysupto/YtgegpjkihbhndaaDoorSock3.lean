/- What is proved: what Carry, Read and Cut of package sock compute. Conditions: its memory is as 'pairA' says. -/
import Derived.Test.YtgegpjkihbhndaaDoorSock
import Derived.Handy
namespace Go.Proofs.YtgegpjkihbhndaaDoor
open Go.RowKit
set_option linter.unusedVariables false


set_option maxHeartbeats 1600000 in
set_option maxRecDepth 100000 in
theorem sCarry_ok0 {w : World} {R : List Asn} {B : BI} {p : Nat} {s : SPair} (hs : Sep w (base B :: pairA p s :: R)) (hok : s.ok) (hcut : s.cut = false) (n : Nat) (k : Nat) (hk : k = min n s.a.fl.length) :
    Calls Tryd.prog 18 #[.pointer (some ⟨p, 0, none⟩), .int .i64 0, .int .i64 n] w fun r w' => r = .returned (.tuple #[.int .i64 k, .nilIface]) ∧
      Sep w' (base B :: pairA p { s with a := { s.a with fl := s.a.fl.drop k, ib := s.a.ib ++ s.a.fl.take k } } :: R) := by
  obtain ⟨room, ⟨f0, i0, s0, n0⟩, ⟨f1, i1, s1, n1⟩, cut⟩ := s
  obtain ⟨A0, A1, A2, A3, c0, c1, c2, c3, h⟩ := pair_open hs
  dsimp only at *
  subst hcut
  obtain ⟨q1, q2, q3⟩ := hok
  simp only [SWay.ok] at q1 q2 q3
  have hkl : k ≤ f0.length := by omega
  have hfl := (h.f2).rdB.2
  have hle := hfl.le
  have hmx : c0 ≤ 9223372036854775807 := hfl.max
  have b1 : i0.length + k ≤ maxLen := by simp only [maxLen]; omega
  have b2 : (i0.length + k) * 1 ≤ 140737488355328 := by omega
  have b3 : k ≤ c0 := by omega
  have hr1 : Rd w 1 (.slice A0 k c0) k c0 (bv (f0.take k)) := by rw [bv_take]; exact hfl.take hkl
  have hib := hid (h.f3)
  obtain ⟨hc, hf⟩ := h.swap.cells
  clear h hfl
  have e : (i0 ++ f0.take k).length = i0.length + k := by simp [List.length_take]; omega
  have He := hid e
  have Hkl := hid hkl
  clear e hkl
  by_cases hm : n ≤ f0.length
  · obtain rfl : k = n := by omega
    clear hk
    obtain ⟨Ad, nd, cd, hnd, hsl, hrd, _⟩ := drop_any slU8 A0 f0.length c0 (k) .i64 Hkl.out
    go_enter Tryd.func18, Tryd.ntmps18
    go_wp2_with (first | (go_at_call 45; go_in) | (go_at_call 46; go_in) | (go_at_call 50; go_in))
    go_region_law (refine step_append_sep rfl _ _ _ _ rfl slU8 (hib.out.drew) rfl rfl ((hr1.drew).srcB) b1 b2 ?_; intro A9 c9 w9 h9; obtain ⟨hc9, hf9⟩ := h9.f2.cells)
    all_goals
      go_wp2_with fail
      have h10 : Sep (w9.setCell ⟨p, 2, none⟩ (.slice A9 (i0.length + k) c9)) (Blk p 83 #[.int .i64 room, .slice A0 f0.length c0, .slice A9 (i0.length + k) c9, .bool s0, .bool n0, .slice A2 f1.length c2, .slice A3 i1.length c3, .bool s1, .bool n1, .bool false] :: _) := h9.f2.store 2 (.slice A9 (i0.length + k) c9)
      clear hc9 hf9 hc hf h9
      have hfl2 := hrd _ _ h10.f3.rdB.2
      rw [← bv_drop] at hfl2
      refine (clone_any h10 hfl2 (by have := hnd.out; omega)).mono ?_
      rintro r w10 ⟨A10, m10, c10, rfl, hm10, h11⟩
      obtain ⟨hc10, hf10⟩ := h11.swap.cells
      clear hfl2 h10
      have H11 := hid h11
      clear h11
      go_wp2
      go_ret2
      refine ⟨by simp, ?_⟩
      have h12 := (H11.out.swap.store 1 (.slice A10 m10 c10)).f4.tail
      rw [← He.out, ← bv_app] at h12
      obtain rfl := hm10.out
      exact pair_close (Sep.re (xs := [_, _, _, _, _, _]) h12 [3, 0, 1, 2, 4, 5] (by decide) rfl)
  · obtain rfl : k = f0.length := by have := Hkl.out; omega
    clear hk b3
    obtain ⟨Ad, nd, cd, hnd, hsl, hrd, _⟩ := drop_any slU8 A0 f0.length c0 (f0.length) .i64 Hkl.out
    go_enter Tryd.func18, Tryd.ntmps18
    go_wp2_with (first | (go_at_call 45; go_in) | (go_at_call 46; go_in) | (go_at_call 50; go_in))
    go_region_law (refine step_append_sep rfl _ _ _ _ rfl slU8 (hib.out.drew) rfl rfl ((hr1.drew).srcB) b1 b2 ?_; intro A9 c9 w9 h9; obtain ⟨hc9, hf9⟩ := h9.f2.cells)
    all_goals
      go_wp2_with fail
      have h10 : Sep (w9.setCell ⟨p, 2, none⟩ (.slice A9 (i0.length + f0.length) c9)) (Blk p 83 #[.int .i64 room, .slice A0 f0.length c0, .slice A9 (i0.length + f0.length) c9, .bool s0, .bool n0, .slice A2 f1.length c2, .slice A3 i1.length c3, .bool s1, .bool n1, .bool false] :: _) := h9.f2.store 2 (.slice A9 (i0.length + f0.length) c9)
      clear hc9 hf9 hc hf h9
      have hfl2 := hrd _ _ h10.f3.rdB.2
      rw [← bv_drop] at hfl2
      refine (clone_any h10 hfl2 (by have := hnd.out; omega)).mono ?_
      rintro r w10 ⟨A10, m10, c10, rfl, hm10, h11⟩
      obtain ⟨hc10, hf10⟩ := h11.swap.cells
      clear hfl2 h10
      have H11 := hid h11
      clear h11
      go_wp2
      go_ret2
      refine ⟨by simp, ?_⟩
      have h12 := (H11.out.swap.store 1 (.slice A10 m10 c10)).f4.tail
      rw [← He.out, ← bv_app] at h12
      obtain rfl := hm10.out
      exact pair_close (Sep.re (xs := [_, _, _, _, _, _]) h12 [3, 0, 1, 2, 4, 5] (by decide) rfl)

set_option maxHeartbeats 1600000 in
set_option maxRecDepth 100000 in
theorem sCarry_ok1 {w : World} {R : List Asn} {B : BI} {p : Nat} {s : SPair} (hs : Sep w (base B :: pairA p s :: R)) (hok : s.ok) (hcut : s.cut = false) (n : Nat) (k : Nat) (hk : k = min n s.b.fl.length) :
    Calls Tryd.prog 18 #[.pointer (some ⟨p, 0, none⟩), .int .i64 1, .int .i64 n] w fun r w' => r = .returned (.tuple #[.int .i64 k, .nilIface]) ∧
      Sep w' (base B :: pairA p { s with b := { s.b with fl := s.b.fl.drop k, ib := s.b.ib ++ s.b.fl.take k } } :: R) := by
  obtain ⟨room, ⟨f0, i0, s0, n0⟩, ⟨f1, i1, s1, n1⟩, cut⟩ := s
  obtain ⟨A0, A1, A2, A3, c0, c1, c2, c3, h⟩ := pair_open hs
  dsimp only at *
  subst hcut
  obtain ⟨q1, q2, q3⟩ := hok
  simp only [SWay.ok] at q1 q2 q3
  have hkl : k ≤ f1.length := by omega
  have hfl := (h.f4).rdB.2
  have hle := hfl.le
  have hmx : c2 ≤ 9223372036854775807 := hfl.max
  have b1 : i1.length + k ≤ maxLen := by simp only [maxLen]; omega
  have b2 : (i1.length + k) * 1 ≤ 140737488355328 := by omega
  have b3 : k ≤ c2 := by omega
  have hr1 : Rd w 1 (.slice A2 k c2) k c2 (bv (f1.take k)) := by rw [bv_take]; exact hfl.take hkl
  have hib := hid (h.f5)
  obtain ⟨hc, hf⟩ := h.swap.cells
  clear h hfl
  have e : (i1 ++ f1.take k).length = i1.length + k := by simp [List.length_take]; omega
  have He := hid e
  have Hkl := hid hkl
  clear e hkl
  by_cases hm : n ≤ f1.length
  · obtain rfl : k = n := by omega
    clear hk
    obtain ⟨Ad, nd, cd, hnd, hsl, hrd, _⟩ := drop_any slU8 A2 f1.length c2 (k) .i64 Hkl.out
    go_enter Tryd.func18, Tryd.ntmps18
    go_wp2_with (first | (go_at_call 45; go_in) | (go_at_call 46; go_in) | (go_at_call 50; go_in))
    go_region_law (refine step_append_sep rfl _ _ _ _ rfl slU8 (hib.out.drew) rfl rfl ((hr1.drew).srcB) b1 b2 ?_; intro A9 c9 w9 h9; obtain ⟨hc9, hf9⟩ := h9.f2.cells)
    all_goals
      go_wp2_with fail
      have h10 : Sep (w9.setCell ⟨p, 6, none⟩ (.slice A9 (i1.length + k) c9)) (Blk p 83 #[.int .i64 room, .slice A0 f0.length c0, .slice A1 i0.length c1, .bool s0, .bool n0, .slice A2 f1.length c2, .slice A9 (i1.length + k) c9, .bool s1, .bool n1, .bool false] :: _) := h9.f2.store 6 (.slice A9 (i1.length + k) c9)
      clear hc9 hf9 hc hf h9
      have hfl2 := hrd _ _ h10.f5.rdB.2
      rw [← bv_drop] at hfl2
      refine (clone_any h10 hfl2 (by have := hnd.out; omega)).mono ?_
      rintro r w10 ⟨A10, m10, c10, rfl, hm10, h11⟩
      obtain ⟨hc10, hf10⟩ := h11.swap.cells
      clear hfl2 h10
      have H11 := hid h11
      clear h11
      go_wp2
      go_ret2
      refine ⟨by simp, ?_⟩
      have h12 := (H11.out.swap.store 5 (.slice A10 m10 c10)).f6.tail
      rw [← He.out, ← bv_app] at h12
      obtain rfl := hm10.out
      exact pair_close (Sep.re (xs := [_, _, _, _, _, _]) h12 [3, 0, 4, 5, 1, 2] (by decide) rfl)
  · obtain rfl : k = f1.length := by have := Hkl.out; omega
    clear hk b3
    obtain ⟨Ad, nd, cd, hnd, hsl, hrd, _⟩ := drop_any slU8 A2 f1.length c2 (f1.length) .i64 Hkl.out
    go_enter Tryd.func18, Tryd.ntmps18
    go_wp2_with (first | (go_at_call 45; go_in) | (go_at_call 46; go_in) | (go_at_call 50; go_in))
    go_region_law (refine step_append_sep rfl _ _ _ _ rfl slU8 (hib.out.drew) rfl rfl ((hr1.drew).srcB) b1 b2 ?_; intro A9 c9 w9 h9; obtain ⟨hc9, hf9⟩ := h9.f2.cells)
    all_goals
      go_wp2_with fail
      have h10 : Sep (w9.setCell ⟨p, 6, none⟩ (.slice A9 (i1.length + f1.length) c9)) (Blk p 83 #[.int .i64 room, .slice A0 f0.length c0, .slice A1 i0.length c1, .bool s0, .bool n0, .slice A2 f1.length c2, .slice A9 (i1.length + f1.length) c9, .bool s1, .bool n1, .bool false] :: _) := h9.f2.store 6 (.slice A9 (i1.length + f1.length) c9)
      clear hc9 hf9 hc hf h9
      have hfl2 := hrd _ _ h10.f5.rdB.2
      rw [← bv_drop] at hfl2
      refine (clone_any h10 hfl2 (by have := hnd.out; omega)).mono ?_
      rintro r w10 ⟨A10, m10, c10, rfl, hm10, h11⟩
      obtain ⟨hc10, hf10⟩ := h11.swap.cells
      clear hfl2 h10
      have H11 := hid h11
      clear h11
      go_wp2
      go_ret2
      refine ⟨by simp, ?_⟩
      have h12 := (H11.out.swap.store 5 (.slice A10 m10 c10)).f6.tail
      rw [← He.out, ← bv_app] at h12
      obtain rfl := hm10.out
      exact pair_close (Sep.re (xs := [_, _, _, _, _, _]) h12 [3, 0, 4, 5, 1, 2] (by decide) rfl)
end Go.Proofs.YtgegpjkihbhndaaDoor