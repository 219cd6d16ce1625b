/- What is proved: Take and Write of the reference of layer 3. Conditions: its memory is as 'refA' says. -/
import Derived.Test.YtgegpjkihbhndaaDoorRef3
namespace Go.Proofs.YtgegpjkihbhndaaDoor
open Go.RowKit
set_option linter.unusedVariables false


set_option maxHeartbeats 1600000 in
set_option maxRecDepth 100000 in
theorem rTake_ok0 {w : World} {R : List Asn} {B : BI} {q : Nat} {r : RPair} (hs : Sep w (base B :: refA q r :: R)) (hok : r.ok) (hne : r.cut = true → r.b.rd ≠ r.b.car) (n k : Nat) (hk : k = min n (r.b.car - r.b.rd)) :
    Calls Tryd.prog 21 #[.pointer (some ⟨q, 0, none⟩), .int .i64 0, .int .i64 n] w fun x w' => ∃ A m c, x = .returned (.tuple #[.slice A m c, .int .i64 0]) ∧ Sep w' (base B :: refA q { r with b := { r.b with rd := r.b.rd + k } } :: R) ∧
      Rd w' 1 (.slice A m c) m c (bv ((r.b.all.drop r.b.rd).take k)) := by
  obtain ⟨room, ⟨a0, r0, d0, s0⟩, ⟨a1, r1, d1, s1⟩, cut⟩ := r
  obtain ⟨A0, A1, c0, c1, h⟩ := ref_open hs
  dsimp only at *
  obtain ⟨q1, ⟨q2, q3, q4, q5⟩, ⟨q6, q7, q8, q9⟩⟩ := hok
  dsimp only at q1 q2 q3 q4 q5 q6 q7 q8 q9
  have hkr : d1 + k ≤ r1 := by omega
  have Hk := hid hk
  clear hk
  have hg : cut = false ∨ (cut = true ∧ ((d1 : Int) == r1) = false) := by
    cases cut
    · exact .inl rfl
    · exact .inr ⟨rfl, by have := hne rfl; rw [natbeq]; simpa using this⟩
  obtain ⟨hc, hf⟩ := h.swap.cells
  have hle := h.f3.rdB.2.le
  obtain ⟨A', n', c', hn', hsl, hrd⟩ := sub_any slU8 A1 a1.length c1 .i64 .i64 (d1 : Int) ((d1 : Int) + k) d1 (d1 + k) rfl (by omega) (by omega) (by omega) hle
  have H := hid h
  have Hkr := hid hkr
  clear h hne hkr
  have hlen : 0 ≤ (r1 : Int) - d1 := by omega
  by_cases hm : (r1 : Int) - d1 < n
  · have e1 := hid (show (d1 : Int) + (r1 - d1) = ((d1 + k : Nat) : Int) by have := Hk.out; omega)
    have e2 := hid (show (r1 : Int) - d1 = k by have := Hk.out; omega)
    rcases hg with rfl | ⟨rfl, hg⟩
    all_goals
      go_enter Tryd.func21, Tryd.ntmps21
      go_wp2_with (go_at_call 48; go_in)
      go_quiet (fail)
      go_wp2
      go_quiet (fail)
      go_wp2
      go_quiet (fail)
      go_wp2
      rw [e1.out, e2.out]
      go_quiet (fail)
      go_wp2
      go_ret2
      have h4 := fun k1 k2 => (((H.out.swap.drewN k1).store 7 (.int .i64 ((d1 + k : Nat) : Int))).swap.drewN k2)
      have h5 := fun k1 k2 => hrd _ _ ((h4 k1 k2).f3.rdB.2)
      refine ⟨A', n', c', by simp, ref_close (h4 _ _), ?_⟩
      have e3 : bv ((a1.drop d1).take k) = ((bv a1).take ((d1 + k) * 1)).drop (d1 * 1) := by rw [← bv_take, ← bv_drop, List.drop_take]; congr 2; omega
      rw [e3]
      exact h5 _ _
  · obtain rfl : k = n := by have := Hk.out; omega
    have e1 := hid (show (d1 : Int) + k = ((d1 + k : Nat) : Int) by omega)
    rcases hg with rfl | ⟨rfl, hg⟩
    all_goals
      go_enter Tryd.func21, Tryd.ntmps21
      go_wp2_with (go_at_call 48; go_in)
      go_quiet (fail)
      go_wp2
      go_quiet (fail)
      go_wp2
      rw [e1.out]
      go_quiet (fail)
      go_wp2
      go_ret2
      have h4 := fun k1 k2 => (((H.out.swap.drewN k1).store 7 (.int .i64 ((d1 + k : Nat) : Int))).swap.drewN k2)
      have h5 := fun k1 k2 => hrd _ _ ((h4 k1 k2).f3.rdB.2)
      refine ⟨A', n', c', by simp, ref_close (h4 _ _), ?_⟩
      have e3 : bv ((a1.drop d1).take k) = ((bv a1).take ((d1 + k) * 1)).drop (d1 * 1) := by rw [← bv_take, ← bv_drop, List.drop_take]; congr 2; omega
      rw [e3]
      exact h5 _ _


set_option maxHeartbeats 1600000 in
set_option maxRecDepth 100000 in
theorem rTake_ok1 {w : World} {R : List Asn} {B : BI} {q : Nat} {r : RPair} (hs : Sep w (base B :: refA q r :: R)) (hok : r.ok) (hne : r.cut = true → r.a.rd ≠ r.a.car) (n k : Nat) (hk : k = min n (r.a.car - r.a.rd)) :
    Calls Tryd.prog 21 #[.pointer (some ⟨q, 0, none⟩), .int .i64 1, .int .i64 n] w fun x w' => ∃ A m c, x = .returned (.tuple #[.slice A m c, .int .i64 0]) ∧ Sep w' (base B :: refA q { r with a := { r.a with rd := r.a.rd + k } } :: R) ∧
      Rd w' 1 (.slice A m c) m c (bv ((r.a.all.drop r.a.rd).take k)) := by
  obtain ⟨room, ⟨a0, r0, d0, s0⟩, ⟨a1, r1, d1, s1⟩, cut⟩ := r
  obtain ⟨A0, A1, c0, c1, h⟩ := ref_open hs
  dsimp only at *
  obtain ⟨q1, ⟨q2, q3, q4, q5⟩, ⟨q6, q7, q8, q9⟩⟩ := hok
  dsimp only at q1 q2 q3 q4 q5 q6 q7 q8 q9
  have hkr : d0 + k ≤ r0 := by omega
  have Hk := hid hk
  clear hk
  have hg : cut = false ∨ (cut = true ∧ ((d0 : Int) == r0) = false) := by
    cases cut
    · exact .inl rfl
    · exact .inr ⟨rfl, by have := hne rfl; rw [natbeq]; simpa using this⟩
  obtain ⟨hc, hf⟩ := h.swap.cells
  have hle := h.f2.rdB.2.le
  obtain ⟨A', n', c', hn', hsl, hrd⟩ := sub_any slU8 A0 a0.length c0 .i64 .i64 (d0 : Int) ((d0 : Int) + k) d0 (d0 + k) rfl (by omega) (by omega) (by omega) hle
  have H := hid h
  have Hkr := hid hkr
  clear h hne hkr
  have hlen : 0 ≤ (r0 : Int) - d0 := by omega
  by_cases hm : (r0 : Int) - d0 < n
  · have e1 := hid (show (d0 : Int) + (r0 - d0) = ((d0 + k : Nat) : Int) by have := Hk.out; omega)
    have e2 := hid (show (r0 : Int) - d0 = k by have := Hk.out; omega)
    rcases hg with rfl | ⟨rfl, hg⟩
    all_goals
      go_enter Tryd.func21, Tryd.ntmps21
      go_wp2_with (go_at_call 48; go_in)
      go_quiet (fail)
      go_wp2
      go_quiet (fail)
      go_wp2
      go_quiet (fail)
      go_wp2
      rw [e1.out, e2.out]
      go_quiet (fail)
      go_wp2
      go_ret2
      have h4 := fun k1 k2 => (((H.out.swap.drewN k1).store 3 (.int .i64 ((d0 + k : Nat) : Int))).swap.drewN k2)
      have h5 := fun k1 k2 => hrd _ _ ((h4 k1 k2).f2.rdB.2)
      refine ⟨A', n', c', by simp, ref_close (h4 _ _), ?_⟩
      have e3 : bv ((a0.drop d0).take k) = ((bv a0).take ((d0 + k) * 1)).drop (d0 * 1) := by rw [← bv_take, ← bv_drop, List.drop_take]; congr 2; omega
      rw [e3]
      exact h5 _ _
  · obtain rfl : k = n := by have := Hk.out; omega
    have e1 := hid (show (d0 : Int) + k = ((d0 + k : Nat) : Int) by omega)
    rcases hg with rfl | ⟨rfl, hg⟩
    all_goals
      go_enter Tryd.func21, Tryd.ntmps21
      go_wp2_with (go_at_call 48; go_in)
      go_quiet (fail)
      go_wp2
      go_quiet (fail)
      go_wp2
      rw [e1.out]
      go_quiet (fail)
      go_wp2
      go_ret2
      have h4 := fun k1 k2 => (((H.out.swap.drewN k1).store 3 (.int .i64 ((d0 + k : Nat) : Int))).swap.drewN k2)
      have h5 := fun k1 k2 => hrd _ _ ((h4 k1 k2).f2.rdB.2)
      refine ⟨A', n', c', by simp, ref_close (h4 _ _), ?_⟩
      have e3 : bv ((a0.drop d0).take k) = ((bv a0).take ((d0 + k) * 1)).drop (d0 * 1) := by rw [← bv_take, ← bv_drop, List.drop_take]; congr 2; omega
      rw [e3]
      exact h5 _ _


set_option maxHeartbeats 1600000 in
set_option maxRecDepth 100000 in
theorem rWrite_ok0 {w : World} {R : List Asn} {B : BI} {q : Nat} {r : RPair} (hs : Sep w (base B :: refA q r :: R)) (hok : r.ok) (hcut : r.cut = false) (hsh : r.a.sh = false) {A : Option Addr} {m c : Nat} {l : List UInt8} (hr : Rd w 1 (.slice A m c) m c (bv l)) (k : Nat) (hk : k = min (r.room - (r.a.all.length - r.a.rd)) l.length) :
    Calls Tryd.prog 13 #[.pointer (some ⟨q, 0, none⟩), .int .i64 0, .slice A m c] w fun x w' => x = .returned (.tuple #[.int .i64 k, .int .i64 0]) ∧ Sep w' (base B :: refA q { r with a := { r.a with all := r.a.all ++ l.take k } } :: R) := by
  have hl := hr.blen
  have hkl : k ≤ l.length := by omega
  have Hk := hid hk
  have hF := rFree_ok0 hs hok
  obtain ⟨F, hFe⟩ : ∃ F : Nat, (if (r.cut || r.a.sh) = true then (0 : Int) else ((r.room - (r.a.all.length - r.a.rd) : Nat) : Int)) = F := ⟨r.room - (r.a.all.length - r.a.rd), by rw [hcut, hsh]; rfl⟩
  rw [hFe] at hF
  have HF := hid hF
  have Hkf : Hid (k = min F l.length) := by
    rw [hcut, hsh] at hFe
    have : ((r.room - (r.a.all.length - r.a.rd) : Nat) : Int) = F := hFe
    show k = min F l.length
    omega
  clear hFe hk hF
  obtain ⟨room, ⟨a0, r0, d0, s0⟩, ⟨a1, r1, d1, s1⟩, cut⟩ := r
  obtain ⟨A0, A1, c0, c1, h⟩ := ref_open hs
  dsimp only at *
  obtain ⟨q1, ⟨q2, q3, q4, q5⟩, ⟨q6, q7, q8, q9⟩⟩ := hok
  dsimp only at q1 q2 q3 q4 q5 q6 q7 q8 q9
  subst hcut; subst hsh
  have hmc := hr.le
  have hcm : c ≤ 9223372036854775807 := hr.max
  have hr1 : Rd w 1 (.slice A k c) k c (bv (l.take k)) := by rw [bv_take]; exact hr.take (by omega)
  have b1 : a0.length + k ≤ maxLen := by have := Hk.out; simp only [maxLen]; omega
  have b2 : (a0.length + k) * 1 ≤ 140737488355328 := by have := Hk.out; omega
  have b3 : k ≤ c := by omega
  have he : (a0 ++ l.take k).length = a0.length + k := by simp [List.length_take]; omega
  obtain ⟨hc, hf⟩ := h.swap.cells
  have H := hid (h.f2)
  have He := hid he
  have Hl := hid hl
  have Hkl := hid hkl
  clear h he hl hkl
  by_cases hm : m < F
  · obtain rfl : k = m := by have := Hkf.out; have := Hl.out; omega
    go_enter Tryd.func13, Tryd.ntmps13
    go_wp2_with (go_at_call 48; go_in)
    refine HF.out.mono ?_; rintro x w' ⟨rfl, k2, rfl⟩
    go_wp2_with fail
    go_region_law (refine step_append_sep rfl _ _ _ _ rfl slU8 (H.out.drewN _) rfl rfl ((hr1.drewN _).srcB) b1 b2 ?_; intro A9 c9 w9 h9; obtain ⟨hc9, hf9⟩ := h9.f2.cells)
    go_wp2
    go_ret2
    have h10 := h9.f2.store 1 (.slice A9 (a0.length + k) c9)
    rw [← He.out, ← bv_app] at h10
    rw [← He.out]
    exact ⟨by simp, ref_close (Sep.re (xs := [_, _, _, _]) h10 [2, 0, 1, 3] (by decide) rfl)⟩
  · obtain rfl : k = F := by have := Hkf.out; have := Hl.out; omega
    go_enter Tryd.func13, Tryd.ntmps13
    go_wp2_with (go_at_call 48; go_in)
    refine HF.out.mono ?_; rintro x w' ⟨rfl, k2, rfl⟩
    go_wp2_with fail
    go_region_law (refine step_append_sep rfl _ _ _ _ rfl slU8 (H.out.drewN _) rfl rfl ((hr1.drewN _).srcB) b1 b2 ?_; intro A9 c9 w9 h9; obtain ⟨hc9, hf9⟩ := h9.f2.cells)
    go_wp2
    go_ret2
    have h10 := h9.f2.store 1 (.slice A9 (a0.length + k) c9)
    rw [← He.out, ← bv_app] at h10
    rw [← He.out]
    exact ⟨by simp, ref_close (Sep.re (xs := [_, _, _, _]) h10 [2, 0, 1, 3] (by decide) rfl)⟩


set_option maxHeartbeats 1600000 in
set_option maxRecDepth 100000 in
theorem rWrite_ok1 {w : World} {R : List Asn} {B : BI} {q : Nat} {r : RPair} (hs : Sep w (base B :: refA q r :: R)) (hok : r.ok) (hcut : r.cut = false) (hsh : r.b.sh = false) {A : Option Addr} {m c : Nat} {l : List UInt8} (hr : Rd w 1 (.slice A m c) m c (bv l)) (k : Nat) (hk : k = min (r.room - (r.b.all.length - r.b.rd)) l.length) :
    Calls Tryd.prog 13 #[.pointer (some ⟨q, 0, none⟩), .int .i64 1, .slice A m c] w fun x w' => x = .returned (.tuple #[.int .i64 k, .int .i64 0]) ∧ Sep w' (base B :: refA q { r with b := { r.b with all := r.b.all ++ l.take k } } :: R) := by
  have hl := hr.blen
  have hkl : k ≤ l.length := by omega
  have Hk := hid hk
  have hF := rFree_ok1 hs hok
  obtain ⟨F, hFe⟩ : ∃ F : Nat, (if (r.cut || r.b.sh) = true then (0 : Int) else ((r.room - (r.b.all.length - r.b.rd) : Nat) : Int)) = F := ⟨r.room - (r.b.all.length - r.b.rd), by rw [hcut, hsh]; rfl⟩
  rw [hFe] at hF
  have HF := hid hF
  have Hkf : Hid (k = min F l.length) := by
    rw [hcut, hsh] at hFe
    have : ((r.room - (r.b.all.length - r.b.rd) : Nat) : Int) = F := hFe
    show k = min F l.length
    omega
  clear hFe hk hF
  obtain ⟨room, ⟨a0, r0, d0, s0⟩, ⟨a1, r1, d1, s1⟩, cut⟩ := r
  obtain ⟨A0, A1, c0, c1, h⟩ := ref_open hs
  dsimp only at *
  obtain ⟨q1, ⟨q2, q3, q4, q5⟩, ⟨q6, q7, q8, q9⟩⟩ := hok
  dsimp only at q1 q2 q3 q4 q5 q6 q7 q8 q9
  subst hcut; subst hsh
  have hmc := hr.le
  have hcm : c ≤ 9223372036854775807 := hr.max
  have hr1 : Rd w 1 (.slice A k c) k c (bv (l.take k)) := by rw [bv_take]; exact hr.take (by omega)
  have b1 : a1.length + k ≤ maxLen := by have := Hk.out; simp only [maxLen]; omega
  have b2 : (a1.length + k) * 1 ≤ 140737488355328 := by have := Hk.out; omega
  have b3 : k ≤ c := by omega
  have he : (a1 ++ l.take k).length = a1.length + k := by simp [List.length_take]; omega
  obtain ⟨hc, hf⟩ := h.swap.cells
  have H := hid (h.f3)
  have He := hid he
  have Hl := hid hl
  have Hkl := hid hkl
  clear h he hl hkl
  by_cases hm : m < F
  · obtain rfl : k = m := by have := Hkf.out; have := Hl.out; omega
    go_enter Tryd.func13, Tryd.ntmps13
    go_wp2_with (go_at_call 48; go_in)
    refine HF.out.mono ?_; rintro x w' ⟨rfl, k2, rfl⟩
    go_wp2_with fail
    go_region_law (refine step_append_sep rfl _ _ _ _ rfl slU8 (H.out.drewN _) rfl rfl ((hr1.drewN _).srcB) b1 b2 ?_; intro A9 c9 w9 h9; obtain ⟨hc9, hf9⟩ := h9.f2.cells)
    go_wp2
    go_ret2
    have h10 := h9.f2.store 5 (.slice A9 (a1.length + k) c9)
    rw [← He.out, ← bv_app] at h10
    rw [← He.out]
    exact ⟨by simp, ref_close (Sep.re (xs := [_, _, _, _]) h10 [2, 0, 3, 1] (by decide) rfl)⟩
  · obtain rfl : k = F := by have := Hkf.out; have := Hl.out; omega
    go_enter Tryd.func13, Tryd.ntmps13
    go_wp2_with (go_at_call 48; go_in)
    refine HF.out.mono ?_; rintro x w' ⟨rfl, k2, rfl⟩
    go_wp2_with fail
    go_region_law (refine step_append_sep rfl _ _ _ _ rfl slU8 (H.out.drewN _) rfl rfl ((hr1.drewN _).srcB) b1 b2 ?_; intro A9 c9 w9 h9; obtain ⟨hc9, hf9⟩ := h9.f2.cells)
    go_wp2
    go_ret2
    have h10 := h9.f2.store 5 (.slice A9 (a1.length + k) c9)
    rw [← He.out, ← bv_app] at h10
    rw [← He.out]
    exact ⟨by simp, ref_close (Sep.re (xs := [_, _, _, _]) h10 [2, 0, 3, 1] (by decide) rfl)⟩

end Go.Proofs.YtgegpjkihbhndaaDoor