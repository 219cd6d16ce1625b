/- What is proved: what each function of package sock computes. Conditions: its memory is as 'pairA' says. -/
import Derived.Test.YtgegpjkihbhndaaDoorBase
namespace Go.Proofs.YtgegpjkihbhndaaDoor
open Go.RowKit
set_option linter.unusedVariables false

/-! ### The state -/
structure SWay where
  fl : List UInt8
  ib : List UInt8
  sh : Bool
  en : Bool
structure SPair where
  room : Nat
  a : SWay
  b : SWay
  cut : Bool
def SWay.ok (w : SWay) (room : Nat) : Prop := w.fl.length + w.ib.length ≤ room
def SPair.ok (s : SPair) : Prop := s.room ≤ 65536 ∧ s.a.ok s.room ∧ s.b.ok s.room

/-- A pair in memory. -/
def pairA (p : Nat) (s : SPair) : Asn :=
  .ex fun A0 : Option Addr => .ex fun A1 : Option Addr => .ex fun A2 : Option Addr => .ex fun A3 : Option Addr => .ex fun c0 : Nat => .ex fun c1 : Nat => .ex fun c2 : Nat => .ex fun c3 : Nat =>
  .all [Blk p 83 #[.int .i64 s.room, .slice A0 s.a.fl.length c0, .slice A1 s.a.ib.length c1, .bool s.a.sh, .bool s.a.en, .slice A2 s.b.fl.length c2, .slice A3 s.b.ib.length c3, .bool s.b.sh, .bool s.b.en, .bool s.cut], OwnB (.slice A0 s.a.fl.length c0) s.a.fl, OwnB (.slice A1 s.a.ib.length c1) s.a.ib, OwnB (.slice A2 s.b.fl.length c2) s.b.fl, OwnB (.slice A3 s.b.ib.length c3) s.b.ib]

section
variable {w : World} {B : BI} {p : Nat} {s : SPair} {R : List Asn} {A0 A1 A2 A3 : Option Addr} {c0 c1 c2 c3 : Nat}
theorem pair_open (h : Sep w (base B :: pairA p s :: R)) : ∃ A0 A1 A2 A3 c0 c1 c2 c3, Sep w (base B :: Blk p 83 #[.int .i64 s.room, .slice A0 s.a.fl.length c0, .slice A1 s.a.ib.length c1, .bool s.a.sh, .bool s.a.en, .slice A2 s.b.fl.length c2, .slice A3 s.b.ib.length c3, .bool s.b.sh, .bool s.b.en, .bool s.cut] :: OwnB (.slice A0 s.a.fl.length c0) s.a.fl :: OwnB (.slice A1 s.a.ib.length c1) s.a.ib :: OwnB (.slice A2 s.b.fl.length c2) s.b.fl :: OwnB (.slice A3 s.b.ib.length c3) s.b.ib :: R) := by
  obtain ⟨A0, A1, A2, A3, c0, c1, c2, c3, h⟩ : ∃ A0 A1 A2 A3 c0 c1 c2 c3, Sep w (Asn.all _ :: base B :: R) := by
    obtain ⟨A0, h⟩ := h.swap.of_ex; obtain ⟨A1, h⟩ := h.of_ex; obtain ⟨A2, h⟩ := h.of_ex; obtain ⟨A3, h⟩ := h.of_ex; obtain ⟨c0, h⟩ := h.of_ex; obtain ⟨c1, h⟩ := h.of_ex; obtain ⟨c2, h⟩ := h.of_ex; obtain ⟨c3, h⟩ := h.of_ex
    exact ⟨A0, A1, A2, A3, c0, c1, c2, c3, h⟩
  exact ⟨A0, A1, A2, A3, c0, c1, c2, c3, h.of_all.f5⟩
theorem pair_close (h : Sep w (base B :: Blk p 83 #[.int .i64 s.room, .slice A0 s.a.fl.length c0, .slice A1 s.a.ib.length c1, .bool s.a.sh, .bool s.a.en, .slice A2 s.b.fl.length c2, .slice A3 s.b.ib.length c3, .bool s.b.sh, .bool s.b.en, .bool s.cut] :: OwnB (.slice A0 s.a.fl.length c0) s.a.fl :: OwnB (.slice A1 s.a.ib.length c1) s.a.ib :: OwnB (.slice A2 s.b.fl.length c2) s.b.fl :: OwnB (.slice A3 s.b.ib.length c3) s.b.ib :: R)) : Sep w (base B :: pairA p s :: R) := by
  have h2 : Sep w ([Blk p 83 #[.int .i64 s.room, .slice A0 s.a.fl.length c0, .slice A1 s.a.ib.length c1, .bool s.a.sh, .bool s.a.en, .slice A2 s.b.fl.length c2, .slice A3 s.b.ib.length c3, .bool s.b.sh, .bool s.b.en, .bool s.cut], OwnB (.slice A0 s.a.fl.length c0) s.a.fl, OwnB (.slice A1 s.a.ib.length c1) s.a.ib, OwnB (.slice A2 s.b.fl.length c2) s.b.fl, OwnB (.slice A3 s.b.ib.length c3) s.b.ib] ++ (base B :: R)) := h.u5
  exact (Sep.to_ex A0 (Sep.to_ex A1 (Sep.to_ex A2 (Sep.to_ex A3 (Sep.to_ex c0 (Sep.to_ex c1 (Sep.to_ex c2 (Sep.to_ex c3 h2.to_all)))))))).swap
end


theorem left_any (p o : Nat) (room : Int) (K n0 n1 c0 c1 : Nat) (A0 A1 : Option Addr) (w : World) (hc : w.cell? ⟨p, 0, none⟩ = some (.int .i64 room)) (hc0 : w.cell? ⟨p, o, none⟩ = some (.slice A0 n0 c0)) (hc1 : w.cell? ⟨p, o + 1, none⟩ = some (.slice A1 n1 c1))
    (hK : room = K + n0 + n1) (h2 : room ≤ 65536) :
    Calls Tryd.prog 47 #[.pointer (some ⟨p, 0, none⟩), .pointer (some ⟨p, o, none⟩)] w fun r w' => r = .returned (.int .i64 K) ∧ ∃ k, w' = w.drewN k := by
  have h0 : 0 ≤ room - n0 - n1 := by omega
  have HK := hid hK
  clear hK
  go_enter Tryd.func47, Tryd.ntmps47
  go_wp2
  go_quiet (fail)
  go_wp2
  go_ret
  have := HK.out
  refine ⟨?_, _, rfl⟩
  have e : room - (n0 : Int) - n1 = K := by omega
  simp [e]

/-- slices.Clone of bytes. -/
theorem clone_any {w : World} {R : List Asn} {v : Value} {n c : Nat} {l : List UInt8} (h : Sep w R) (hr : Rd w 1 v n c (bv l)) (hb : n ≤ 140737488355328) :
    Calls Tryd.prog 49 #[v] w fun r w' => ∃ A m c', r = .returned (.slice A m c') ∧ Hid (m = l.length) ∧ Sep w' (Own 5 1 (.slice A m c') m (bv l) :: R) := by
  obtain ⟨A, rfl⟩ := hr.form
  have hl := hr.blen
  have hmc := hr.le
  have hcm : c ≤ 9223372036854775807 := hr.max
  have heq := fun (W : World) (B : Option Addr) => Lib.run_eql_slice_nil (P := Tryd.prog) W 30 5 B n c 0 0 Tryd.underlying30
  rcases A with _ | a
  · have hn : n = 0 := by
      rcases Nat.eq_zero_or_pos n with h0 | h0
      · exact h0
      · obtain ⟨A', e, _, _, _, hc⟩ := hr
        obtain ⟨ad, he, _⟩ := hc h0
        subst he
        cases e
    subst hn
    obtain rfl : l = [] := List.eq_nil_of_length_eq_zero hl
    go_enter Tryd.func49, Tryd.ntmps49
    go_wp2
    go_ret
    exact ⟨none, 0, 0, rfl, rfl, h.own_nil _ _⟩
  · go_enter Tryd.func49, Tryd.ntmps49
    go_wp2_with (at_builtin; refine wpList_append_sep rfl _ _ _ _ rfl slU8 ((h.alloc_ _).own_zero _ _ _) rfl rfl ((hr.alloc _).srcB) ?c1 ?c2 ?c3)
    case c1 => simp only [maxLen]; omega
    case c2 => omega
    case c3 =>
      intro A c' w1 h1
      go_wp2
      go_ret
      exact ⟨A, n, c', by simp, hl.symm, by simpa using h1⟩


theorem write_ok0 {w : World} {R : List Asn} {B : BI} {p : Nat} {s : SPair} (hs : Sep w (base B :: pairA p s :: R)) (hok : s.ok) (hcut : s.cut = false) (hsh : s.a.sh = false) {A : Option Addr} {m c : Nat} {l : List UInt8} (hr : Rd w 1 (.slice A m c) m c (bv l))
    (k : Nat) (hk : k = min (s.room - s.a.fl.length - s.a.ib.length) l.length) :
    Calls Tryd.prog 12 #[.pointer (some ⟨p, 0, none⟩), .int .i64 0, .slice A m c] w fun r w' => r = .returned (.tuple #[.int .i64 k, .nilIface]) ∧
      Sep w' (base B :: pairA p { s with a := { s.a with fl := s.a.fl ++ l.take k } } :: R) := by
  obtain ⟨room, ⟨f0, i0, h0, n0⟩, ⟨f1, i1, h1, n1⟩, cut⟩ := s
  obtain ⟨A0, A1, A2, A3, c0, c1, c2, c3, h⟩ := pair_open hs
  obtain ⟨q1, q2, q3⟩ := hok
  simp only [SWay.ok] at q1 q2 q3
  dsimp only at *
  subst hcut; subst hsh
  obtain ⟨hc, hf⟩ := h.swap.cells
  have hl := hr.blen
  have hmc := hr.le
  have hcm : c ≤ 9223372036854775807 := hr.max
  obtain ⟨K, hK⟩ : ∃ K, room = K + f0.length + i0.length := ⟨room - f0.length - i0.length, by omega⟩
  have HK := hid hK
  have Hk := hid hk
  have Hl := hid hl
  clear hK hk hl
  by_cases hm : K ≤ m
  · obtain rfl : k = K := by have := Hk.out; have := HK.out; have := Hl.out; omega
    have hr1 : Rd w 1 (.slice A k c) k c (bv (l.take k)) := by rw [bv_take]; exact hr.take hm
    have b1 : f0.length + k ≤ maxLen := by have := HK.out; have := Hk.out; simp only [maxLen]; omega
    have b2 : (f0.length + k) * 1 ≤ 140737488355328 := by have := HK.out; have := Hk.out; omega
    have b3 : k ≤ c := by omega
    go_enter Tryd.func12, Tryd.ntmps12
    go_wp2_with (first | (go_at_call 45; go_in) | (go_at_call 46; go_in))
    refine (left_any _ _ _ k _ _ _ _ _ _ _ (by rw [hc]; rfl) (by rw [hc]; rfl) (by rw [hc]; rfl) (by have := HK.out; omega) (by omega)).mono ?_; rintro e w' ⟨rfl, k2, rfl⟩
    go_wp2_with fail
    go_region_law (refine step_append_sep rfl _ _ _ _ rfl slU8 (h.f2.drewN _) rfl rfl ((hr1.drewN _).srcB) b1 b2 ?_; intro A9 c9 w9 h9; obtain ⟨hc9, hf9⟩ := h9.f2.cells)
    go_wp2
    go_ret2
    refine ⟨rfl, ?_⟩
    have e : (f0 ++ l.take k).length = f0.length + k := by have := Hl.out; have := Hk.out; simp [List.length_take]; omega
    have h10 := h9.f2.store 1 (.slice A9 (f0.length + k) c9)
    rw [← e, ← bv_app] at h10
    rw [← e]
    exact pair_close (h10.f2)
  · obtain rfl : k = m := by have := Hk.out; have := HK.out; have := Hl.out; omega
    have hr1 : Rd w 1 (.slice A k c) k c (bv (l.take k)) := by rw [bv_take]; exact hr.take (Nat.le_refl _)
    have b1 : f0.length + k ≤ maxLen := by have := HK.out; have := Hk.out; simp only [maxLen]; omega
    have b2 : (f0.length + k) * 1 ≤ 140737488355328 := by have := HK.out; have := Hk.out; omega
    have b3 : k ≤ c := by omega
    go_enter Tryd.func12, Tryd.ntmps12
    go_wp2_with (first | (go_at_call 45; go_in) | (go_at_call 46; go_in))
    refine (left_any _ _ _ K _ _ _ _ _ _ _ (by rw [hc]; rfl) (by rw [hc]; rfl) (by rw [hc]; rfl) (by have := HK.out; omega) (by omega)).mono ?_; rintro e w' ⟨rfl, k2, rfl⟩
    go_wp2_with fail
    go_region_law (refine step_append_sep rfl _ _ _ _ rfl slU8 (h.f2.drewN _) rfl rfl ((hr1.drewN _).srcB) b1 b2 ?_; intro A9 c9 w9 h9; obtain ⟨hc9, hf9⟩ := h9.f2.cells)
    go_wp2
    go_ret2
    refine ⟨rfl, ?_⟩
    have e : (f0 ++ l.take k).length = f0.length + k := by have := Hl.out; have := Hk.out; simp [List.length_take]; omega
    have h10 := h9.f2.store 1 (.slice A9 (f0.length + k) c9)
    rw [← e, ← bv_app] at h10
    rw [← e]
    exact pair_close (h10.f2)


theorem write_ok1 {w : World} {R : List Asn} {B : BI} {p : Nat} {s : SPair} (hs : Sep w (base B :: pairA p s :: R)) (hok : s.ok) (hcut : s.cut = false) (hsh : s.b.sh = false) {A : Option Addr} {m c : Nat} {l : List UInt8} (hr : Rd w 1 (.slice A m c) m c (bv l))
    (k : Nat) (hk : k = min (s.room - s.b.fl.length - s.b.ib.length) l.length) :
    Calls Tryd.prog 12 #[.pointer (some ⟨p, 0, none⟩), .int .i64 1, .slice A m c] w fun r w' => r = .returned (.tuple #[.int .i64 k, .nilIface]) ∧
      Sep w' (base B :: pairA p { s with b := { s.b with fl := s.b.fl ++ l.take k } } :: R) := by
  obtain ⟨room, ⟨f0, i0, h0, n0⟩, ⟨f1, i1, h1, n1⟩, cut⟩ := s
  obtain ⟨A0, A1, A2, A3, c0, c1, c2, c3, h⟩ := pair_open hs
  obtain ⟨q1, q2, q3⟩ := hok
  simp only [SWay.ok] at q1 q2 q3
  dsimp only at *
  subst hcut; subst hsh
  obtain ⟨hc, hf⟩ := h.swap.cells
  have hl := hr.blen
  have hmc := hr.le
  have hcm : c ≤ 9223372036854775807 := hr.max
  obtain ⟨K, hK⟩ : ∃ K, room = K + f1.length + i1.length := ⟨room - f1.length - i1.length, by omega⟩
  have HK := hid hK
  have Hk := hid hk
  have Hl := hid hl
  clear hK hk hl
  by_cases hm : K ≤ m
  · obtain rfl : k = K := by have := Hk.out; have := HK.out; have := Hl.out; omega
    have hr1 : Rd w 1 (.slice A k c) k c (bv (l.take k)) := by rw [bv_take]; exact hr.take hm
    have b1 : f1.length + k ≤ maxLen := by have := HK.out; have := Hk.out; simp only [maxLen]; omega
    have b2 : (f1.length + k) * 1 ≤ 140737488355328 := by have := HK.out; have := Hk.out; omega
    have b3 : k ≤ c := by omega
    go_enter Tryd.func12, Tryd.ntmps12
    go_wp2_with (first | (go_at_call 45; go_in) | (go_at_call 46; go_in))
    refine (left_any _ _ _ k _ _ _ _ _ _ _ (by rw [hc]; rfl) (by rw [hc]; rfl) (by rw [hc]; rfl) (by have := HK.out; omega) (by omega)).mono ?_; rintro e w' ⟨rfl, k2, rfl⟩
    go_wp2_with fail
    go_region_law (refine step_append_sep rfl _ _ _ _ rfl slU8 (h.f4.drewN _) rfl rfl ((hr1.drewN _).srcB) b1 b2 ?_; intro A9 c9 w9 h9; obtain ⟨hc9, hf9⟩ := h9.f2.cells)
    go_wp2
    go_ret2
    refine ⟨rfl, ?_⟩
    have e : (f1 ++ l.take k).length = f1.length + k := by have := Hl.out; have := Hk.out; simp [List.length_take]; omega
    have h10 := h9.f2.store 5 (.slice A9 (f1.length + k) c9)
    rw [← e, ← bv_app] at h10
    rw [← e]
    exact pair_close (Sep.re (xs := [_, _, _, _, _, _]) h10 [2, 0, 3, 4, 1, 5] (by decide) rfl)
  · obtain rfl : k = m := by have := Hk.out; have := HK.out; have := Hl.out; omega
    have hr1 : Rd w 1 (.slice A k c) k c (bv (l.take k)) := by rw [bv_take]; exact hr.take (Nat.le_refl _)
    have b1 : f1.length + k ≤ maxLen := by have := HK.out; have := Hk.out; simp only [maxLen]; omega
    have b2 : (f1.length + k) * 1 ≤ 140737488355328 := by have := HK.out; have := Hk.out; omega
    have b3 : k ≤ c := by omega
    go_enter Tryd.func12, Tryd.ntmps12
    go_wp2_with (first | (go_at_call 45; go_in) | (go_at_call 46; go_in))
    refine (left_any _ _ _ K _ _ _ _ _ _ _ (by rw [hc]; rfl) (by rw [hc]; rfl) (by rw [hc]; rfl) (by have := HK.out; omega) (by omega)).mono ?_; rintro e w' ⟨rfl, k2, rfl⟩
    go_wp2_with fail
    go_region_law (refine step_append_sep rfl _ _ _ _ rfl slU8 (h.f4.drewN _) rfl rfl ((hr1.drewN _).srcB) b1 b2 ?_; intro A9 c9 w9 h9; obtain ⟨hc9, hf9⟩ := h9.f2.cells)
    go_wp2
    go_ret2
    refine ⟨rfl, ?_⟩
    have e : (f1 ++ l.take k).length = f1.length + k := by have := Hl.out; have := Hk.out; simp [List.length_take]; omega
    have h10 := h9.f2.store 5 (.slice A9 (f1.length + k) c9)
    rw [← e, ← bv_app] at h10
    rw [← e]
    exact pair_close (Sep.re (xs := [_, _, _, _, _, _]) h10 [2, 0, 3, 4, 1, 5] (by decide) rfl)


theorem sWrite_no {w : World} {R : List Asn} {B : BI} {p : Nat} {s : SPair} (hs : Sep w (base B :: pairA p s :: R)) (hE : ∀ k ∈ [1, 5, 17], k ∈ B.errs) {A : Option Addr} {m c : Nat} (e : Int) (h0 : (e == 0) = false) (h1 : (e == 1) = false) :
    Calls Tryd.prog 12 #[.pointer (some ⟨p, 0, none⟩), .int .i64 e, .slice A m c] w fun r w' => r = .returned (.tuple #[.int .i64 0, errV B 1]) ∧ Sep w' (base B :: pairA p s :: R) := by
  have hs0 := hs
  have e1 : World.cell? _ ⟨0, 0, none⟩ = some (.iface 178 (.pointer (some (B.E 1)))) := Sep.err hs 1 (hE 1 (by decide))
  obtain ⟨room, ⟨f0, i0, s0, n0⟩, ⟨f1, i1, s1, n1⟩, cut⟩ := s
  obtain ⟨A0, A1, A2, A3, c0, c1, c2, c3, h⟩ := pair_open hs
  dsimp only at *
  obtain ⟨hc, hf⟩ := h.swap.cells
  clear h
  go_enter Tryd.func12, Tryd.ntmps12
  go_wp2_with (first | (go_at_call 45; go_in) | (go_at_call 46; go_in) | (go_at_call 50; go_in))
  go_quiet (fail)
  go_wp2
  go_ret2
  exact ⟨rfl, hs0.drewN _⟩


theorem sWrite_cut0 {w : World} {R : List Asn} {B : BI} {p : Nat} {s : SPair} (hs : Sep w (base B :: pairA p s :: R)) (hE : ∀ k ∈ [1, 5, 17], k ∈ B.errs) {A : Option Addr} {m c : Nat}  (hcut : s.cut = true) :
    Calls Tryd.prog 12 #[.pointer (some ⟨p, 0, none⟩), .int .i64 0, .slice A m c] w fun r w' => r = .returned (.tuple #[.int .i64 0, errV B 5]) ∧ Sep w' (base B :: pairA p s :: R) := by
  have hs0 := hs
  have e5 : World.cell? _ ⟨5, 0, none⟩ = some (.iface 178 (.pointer (some (B.E 5)))) := Sep.err hs 5 (hE 5 (by decide))
  obtain ⟨room, ⟨f0, i0, s0, n0⟩, ⟨f1, i1, s1, n1⟩, cut⟩ := s
  obtain ⟨A0, A1, A2, A3, c0, c1, c2, c3, h⟩ := pair_open hs
  dsimp only at *
  subst hcut
  obtain ⟨hc, hf⟩ := h.swap.cells
  clear h
  go_enter Tryd.func12, Tryd.ntmps12
  go_wp2_with (first | (go_at_call 45; go_in) | (go_at_call 46; go_in) | (go_at_call 50; go_in))
  go_quiet (fail)
  go_wp2
  go_ret2
  exact ⟨rfl, hs0.drewN _⟩


theorem sWrite_shut0 {w : World} {R : List Asn} {B : BI} {p : Nat} {s : SPair} (hs : Sep w (base B :: pairA p s :: R)) (hE : ∀ k ∈ [1, 5, 17], k ∈ B.errs) {A : Option Addr} {m c : Nat}  (hcut : s.cut = false) (hsh : s.a.sh = true) :
    Calls Tryd.prog 12 #[.pointer (some ⟨p, 0, none⟩), .int .i64 0, .slice A m c] w fun r w' => r = .returned (.tuple #[.int .i64 0, errV B 17]) ∧ Sep w' (base B :: pairA p s :: R) := by
  have hs0 := hs
  have e17 : World.cell? _ ⟨6, 0, none⟩ = some (.iface 178 (.pointer (some (B.E 17)))) := Sep.err hs 17 (hE 17 (by decide))
  obtain ⟨room, ⟨f0, i0, s0, n0⟩, ⟨f1, i1, s1, n1⟩, cut⟩ := s
  obtain ⟨A0, A1, A2, A3, c0, c1, c2, c3, h⟩ := pair_open hs
  dsimp only at *
  subst hcut; subst hsh
  obtain ⟨hc, hf⟩ := h.swap.cells
  clear h
  go_enter Tryd.func12, Tryd.ntmps12
  go_wp2_with (first | (go_at_call 45; go_in) | (go_at_call 46; go_in) | (go_at_call 50; go_in))
  go_quiet (fail)
  go_wp2
  go_ret2
  exact ⟨rfl, hs0.drewN _⟩


theorem sWrite_cut1 {w : World} {R : List Asn} {B : BI} {p : Nat} {s : SPair} (hs : Sep w (base B :: pairA p s :: R)) (hE : ∀ k ∈ [1, 5, 17], k ∈ B.errs) {A : Option Addr} {m c : Nat}  (hcut : s.cut = true) :
    Calls Tryd.prog 12 #[.pointer (some ⟨p, 0, none⟩), .int .i64 1, .slice A m c] w fun r w' => r = .returned (.tuple #[.int .i64 0, errV B 5]) ∧ Sep w' (base B :: pairA p s :: R) := by
  have hs0 := hs
  have e5 : World.cell? _ ⟨5, 0, none⟩ = some (.iface 178 (.pointer (some (B.E 5)))) := Sep.err hs 5 (hE 5 (by decide))
  obtain ⟨room, ⟨f0, i0, s0, n0⟩, ⟨f1, i1, s1, n1⟩, cut⟩ := s
  obtain ⟨A0, A1, A2, A3, c0, c1, c2, c3, h⟩ := pair_open hs
  dsimp only at *
  subst hcut
  obtain ⟨hc, hf⟩ := h.swap.cells
  clear h
  go_enter Tryd.func12, Tryd.ntmps12
  go_wp2_with (first | (go_at_call 45; go_in) | (go_at_call 46; go_in) | (go_at_call 50; go_in))
  go_quiet (fail)
  go_wp2
  go_ret2
  exact ⟨rfl, hs0.drewN _⟩


theorem sWrite_shut1 {w : World} {R : List Asn} {B : BI} {p : Nat} {s : SPair} (hs : Sep w (base B :: pairA p s :: R)) (hE : ∀ k ∈ [1, 5, 17], k ∈ B.errs) {A : Option Addr} {m c : Nat}  (hcut : s.cut = false) (hsh : s.b.sh = true) :
    Calls Tryd.prog 12 #[.pointer (some ⟨p, 0, none⟩), .int .i64 1, .slice A m c] w fun r w' => r = .returned (.tuple #[.int .i64 0, errV B 17]) ∧ Sep w' (base B :: pairA p s :: R) := by
  have hs0 := hs
  have e17 : World.cell? _ ⟨6, 0, none⟩ = some (.iface 178 (.pointer (some (B.E 17)))) := Sep.err hs 17 (hE 17 (by decide))
  obtain ⟨room, ⟨f0, i0, s0, n0⟩, ⟨f1, i1, s1, n1⟩, cut⟩ := s
  obtain ⟨A0, A1, A2, A3, c0, c1, c2, c3, h⟩ := pair_open hs
  dsimp only at *
  subst hcut; subst hsh
  obtain ⟨hc, hf⟩ := h.swap.cells
  clear h
  go_enter Tryd.func12, Tryd.ntmps12
  go_wp2_with (first | (go_at_call 45; go_in) | (go_at_call 46; go_in) | (go_at_call 50; go_in))
  go_quiet (fail)
  go_wp2
  go_ret2
  exact ⟨rfl, hs0.drewN _⟩


theorem sCarry_no {w : World} {R : List Asn} {B : BI} {p : Nat} {s : SPair} (hs : Sep w (base B :: pairA p s :: R)) (hE : ∀ k ∈ [1, 5, 17], k ∈ B.errs) (n : Int) (e : Int) (h0 : (e == 0) = false) (h1 : (e == 1) = false) :
    Calls Tryd.prog 18 #[.pointer (some ⟨p, 0, none⟩), .int .i64 e, .int .i64 n] w fun r w' => r = .returned (.tuple #[.int .i64 0, errV B 1]) ∧ Sep w' (base B :: pairA p s :: R) := by
  have hs0 := hs
  have e1 : World.cell? _ ⟨0, 0, none⟩ = some (.iface 178 (.pointer (some (B.E 1)))) := Sep.err hs 1 (hE 1 (by decide))
  obtain ⟨room, ⟨f0, i0, s0, n0⟩, ⟨f1, i1, s1, n1⟩, cut⟩ := s
  obtain ⟨A0, A1, A2, A3, c0, c1, c2, c3, h⟩ := pair_open hs
  dsimp only at *
  obtain ⟨hc, hf⟩ := h.swap.cells
  clear h
  go_enter Tryd.func18, Tryd.ntmps18
  go_wp2_with (first | (go_at_call 45; go_in) | (go_at_call 46; go_in) | (go_at_call 50; go_in))
  go_quiet (fail)
  go_wp2
  go_ret2
  exact ⟨rfl, hs0.drewN _⟩


theorem sCarry_cut0 {w : World} {R : List Asn} {B : BI} {p : Nat} {s : SPair} (hs : Sep w (base B :: pairA p s :: R)) (hE : ∀ k ∈ [1, 5, 17], k ∈ B.errs) (n : Int)  (hcut : s.cut = true) (hn : 0 ≤ n) :
    Calls Tryd.prog 18 #[.pointer (some ⟨p, 0, none⟩), .int .i64 0, .int .i64 n] w fun r w' => r = .returned (.tuple #[.int .i64 0, errV B 5]) ∧ Sep w' (base B :: pairA p s :: R) := by
  have hs0 := hs
  have e5 : World.cell? _ ⟨5, 0, none⟩ = some (.iface 178 (.pointer (some (B.E 5)))) := Sep.err hs 5 (hE 5 (by decide))
  obtain ⟨room, ⟨f0, i0, s0, n0⟩, ⟨f1, i1, s1, n1⟩, cut⟩ := s
  obtain ⟨A0, A1, A2, A3, c0, c1, c2, c3, h⟩ := pair_open hs
  dsimp only at *
  subst hcut
  obtain ⟨hc, hf⟩ := h.swap.cells
  clear h
  go_enter Tryd.func18, Tryd.ntmps18
  go_wp2_with (first | (go_at_call 45; go_in) | (go_at_call 46; go_in) | (go_at_call 50; go_in))
  go_quiet (fail)
  go_wp2
  go_ret2
  exact ⟨rfl, hs0.drewN _⟩


theorem sCarry_neg0 {w : World} {R : List Asn} {B : BI} {p : Nat} {s : SPair} (hs : Sep w (base B :: pairA p s :: R)) (hE : ∀ k ∈ [1, 5, 17], k ∈ B.errs) (n : Int)  (hn : n < 0) :
    Calls Tryd.prog 18 #[.pointer (some ⟨p, 0, none⟩), .int .i64 0, .int .i64 n] w fun r w' => r = .returned (.tuple #[.int .i64 0, errV B 1]) ∧ Sep w' (base B :: pairA p s :: R) := by
  have hs0 := hs
  have e1 : World.cell? _ ⟨0, 0, none⟩ = some (.iface 178 (.pointer (some (B.E 1)))) := Sep.err hs 1 (hE 1 (by decide))
  obtain ⟨room, ⟨f0, i0, s0, n0⟩, ⟨f1, i1, s1, n1⟩, cut⟩ := s
  obtain ⟨A0, A1, A2, A3, c0, c1, c2, c3, h⟩ := pair_open hs
  dsimp only at *
  obtain ⟨hc, hf⟩ := h.swap.cells
  clear h
  go_enter Tryd.func18, Tryd.ntmps18
  go_wp2_with (first | (go_at_call 45; go_in) | (go_at_call 46; go_in) | (go_at_call 50; go_in))
  go_quiet (fail)
  go_wp2
  go_ret2
  exact ⟨rfl, hs0.drewN _⟩


theorem sCarry_cut1 {w : World} {R : List Asn} {B : BI} {p : Nat} {s : SPair} (hs : Sep w (base B :: pairA p s :: R)) (hE : ∀ k ∈ [1, 5, 17], k ∈ B.errs) (n : Int)  (hcut : s.cut = true) (hn : 0 ≤ n) :
    Calls Tryd.prog 18 #[.pointer (some ⟨p, 0, none⟩), .int .i64 1, .int .i64 n] w fun r w' => r = .returned (.tuple #[.int .i64 0, errV B 5]) ∧ Sep w' (base B :: pairA p s :: R) := by
  have hs0 := hs
  have e5 : World.cell? _ ⟨5, 0, none⟩ = some (.iface 178 (.pointer (some (B.E 5)))) := Sep.err hs 5 (hE 5 (by decide))
  obtain ⟨room, ⟨f0, i0, s0, n0⟩, ⟨f1, i1, s1, n1⟩, cut⟩ := s
  obtain ⟨A0, A1, A2, A3, c0, c1, c2, c3, h⟩ := pair_open hs
  dsimp only at *
  subst hcut
  obtain ⟨hc, hf⟩ := h.swap.cells
  clear h
  go_enter Tryd.func18, Tryd.ntmps18
  go_wp2_with (first | (go_at_call 45; go_in) | (go_at_call 46; go_in) | (go_at_call 50; go_in))
  go_quiet (fail)
  go_wp2
  go_ret2
  exact ⟨rfl, hs0.drewN _⟩


theorem sCarry_neg1 {w : World} {R : List Asn} {B : BI} {p : Nat} {s : SPair} (hs : Sep w (base B :: pairA p s :: R)) (hE : ∀ k ∈ [1, 5, 17], k ∈ B.errs) (n : Int)  (hn : n < 0) :
    Calls Tryd.prog 18 #[.pointer (some ⟨p, 0, none⟩), .int .i64 1, .int .i64 n] w fun r w' => r = .returned (.tuple #[.int .i64 0, errV B 1]) ∧ Sep w' (base B :: pairA p s :: R) := by
  have hs0 := hs
  have e1 : World.cell? _ ⟨0, 0, none⟩ = some (.iface 178 (.pointer (some (B.E 1)))) := Sep.err hs 1 (hE 1 (by decide))
  obtain ⟨room, ⟨f0, i0, s0, n0⟩, ⟨f1, i1, s1, n1⟩, cut⟩ := s
  obtain ⟨A0, A1, A2, A3, c0, c1, c2, c3, h⟩ := pair_open hs
  dsimp only at *
  obtain ⟨hc, hf⟩ := h.swap.cells
  clear h
  go_enter Tryd.func18, Tryd.ntmps18
  go_wp2_with (first | (go_at_call 45; go_in) | (go_at_call 46; go_in) | (go_at_call 50; go_in))
  go_quiet (fail)
  go_wp2
  go_ret2
  exact ⟨rfl, hs0.drewN _⟩


theorem sRead_no {w : World} {R : List Asn} {B : BI} {p : Nat} {s : SPair} (hs : Sep w (base B :: pairA p s :: R)) (hE : ∀ k ∈ [1, 5, 17], k ∈ B.errs) (n : Int) (e : Int) (h0 : (e == 0) = false) (h1 : (e == 1) = false) :
    Calls Tryd.prog 20 #[.pointer (some ⟨p, 0, none⟩), .int .i64 e, .int .i64 n] w fun r w' => r = .returned (.tuple #[.slice none 0 0, errV B 1]) ∧ Sep w' (base B :: pairA p s :: R) := by
  have hs0 := hs
  have e1 : World.cell? _ ⟨0, 0, none⟩ = some (.iface 178 (.pointer (some (B.E 1)))) := Sep.err hs 1 (hE 1 (by decide))
  obtain ⟨room, ⟨f0, i0, s0, n0⟩, ⟨f1, i1, s1, n1⟩, cut⟩ := s
  obtain ⟨A0, A1, A2, A3, c0, c1, c2, c3, h⟩ := pair_open hs
  dsimp only at *
  obtain ⟨hc, hf⟩ := h.swap.cells
  clear h
  go_enter Tryd.func20, Tryd.ntmps20
  go_wp2_with (first | (go_at_call 45; go_in) | (go_at_call 46; go_in) | (go_at_call 50; go_in))
  go_quiet (fail)
  go_wp2
  go_ret2
  exact ⟨rfl, hs0.drewN _⟩


theorem sRead_cut0 {w : World} {R : List Asn} {B : BI} {p : Nat} {s : SPair} (hs : Sep w (base B :: pairA p s :: R)) (hE : ∀ k ∈ [1, 5, 17], k ∈ B.errs) (n : Int)  (hcut : s.cut = true) (hib : s.b.ib = []) (hn : 0 ≤ n) :
    Calls Tryd.prog 20 #[.pointer (some ⟨p, 0, none⟩), .int .i64 0, .int .i64 n] w fun r w' => r = .returned (.tuple #[.slice none 0 0, errV B 5]) ∧ Sep w' (base B :: pairA p s :: R) := by
  have hs0 := hs
  have e5 : World.cell? _ ⟨5, 0, none⟩ = some (.iface 178 (.pointer (some (B.E 5)))) := Sep.err hs 5 (hE 5 (by decide))
  obtain ⟨room, ⟨f0, i0, s0, n0⟩, ⟨f1, i1, s1, n1⟩, cut⟩ := s
  obtain ⟨A0, A1, A2, A3, c0, c1, c2, c3, h⟩ := pair_open hs
  dsimp only at *
  subst hcut; subst hib
  obtain ⟨hc, hf⟩ := h.swap.cells
  clear h
  go_enter Tryd.func20, Tryd.ntmps20
  go_wp2_with (first | (go_at_call 45; go_in) | (go_at_call 46; go_in) | (go_at_call 50; go_in))
  go_quiet (fail)
  go_wp2
  go_ret2
  exact ⟨rfl, hs0.drewN _⟩


theorem sRead_neg0 {w : World} {R : List Asn} {B : BI} {p : Nat} {s : SPair} (hs : Sep w (base B :: pairA p s :: R)) (hE : ∀ k ∈ [1, 5, 17], k ∈ B.errs) (n : Int)  (hn : n < 0) :
    Calls Tryd.prog 20 #[.pointer (some ⟨p, 0, none⟩), .int .i64 0, .int .i64 n] w fun r w' => r = .returned (.tuple #[.slice none 0 0, errV B 1]) ∧ Sep w' (base B :: pairA p s :: R) := by
  have hs0 := hs
  have e1 : World.cell? _ ⟨0, 0, none⟩ = some (.iface 178 (.pointer (some (B.E 1)))) := Sep.err hs 1 (hE 1 (by decide))
  obtain ⟨room, ⟨f0, i0, s0, n0⟩, ⟨f1, i1, s1, n1⟩, cut⟩ := s
  obtain ⟨A0, A1, A2, A3, c0, c1, c2, c3, h⟩ := pair_open hs
  dsimp only at *
  obtain ⟨hc, hf⟩ := h.swap.cells
  clear h
  go_enter Tryd.func20, Tryd.ntmps20
  go_wp2_with (first | (go_at_call 45; go_in) | (go_at_call 46; go_in) | (go_at_call 50; go_in))
  go_quiet (fail)
  go_wp2
  go_ret2
  exact ⟨rfl, hs0.drewN _⟩


theorem sRead_cut1 {w : World} {R : List Asn} {B : BI} {p : Nat} {s : SPair} (hs : Sep w (base B :: pairA p s :: R)) (hE : ∀ k ∈ [1, 5, 17], k ∈ B.errs) (n : Int)  (hcut : s.cut = true) (hib : s.a.ib = []) (hn : 0 ≤ n) :
    Calls Tryd.prog 20 #[.pointer (some ⟨p, 0, none⟩), .int .i64 1, .int .i64 n] w fun r w' => r = .returned (.tuple #[.slice none 0 0, errV B 5]) ∧ Sep w' (base B :: pairA p s :: R) := by
  have hs0 := hs
  have e5 : World.cell? _ ⟨5, 0, none⟩ = some (.iface 178 (.pointer (some (B.E 5)))) := Sep.err hs 5 (hE 5 (by decide))
  obtain ⟨room, ⟨f0, i0, s0, n0⟩, ⟨f1, i1, s1, n1⟩, cut⟩ := s
  obtain ⟨A0, A1, A2, A3, c0, c1, c2, c3, h⟩ := pair_open hs
  dsimp only at *
  subst hcut; subst hib
  obtain ⟨hc, hf⟩ := h.swap.cells
  clear h
  go_enter Tryd.func20, Tryd.ntmps20
  go_wp2_with (first | (go_at_call 45; go_in) | (go_at_call 46; go_in) | (go_at_call 50; go_in))
  go_quiet (fail)
  go_wp2
  go_ret2
  exact ⟨rfl, hs0.drewN _⟩


theorem sRead_neg1 {w : World} {R : List Asn} {B : BI} {p : Nat} {s : SPair} (hs : Sep w (base B :: pairA p s :: R)) (hE : ∀ k ∈ [1, 5, 17], k ∈ B.errs) (n : Int)  (hn : n < 0) :
    Calls Tryd.prog 20 #[.pointer (some ⟨p, 0, none⟩), .int .i64 1, .int .i64 n] w fun r w' => r = .returned (.tuple #[.slice none 0 0, errV B 1]) ∧ Sep w' (base B :: pairA p s :: R) := by
  have hs0 := hs
  have e1 : World.cell? _ ⟨0, 0, none⟩ = some (.iface 178 (.pointer (some (B.E 1)))) := Sep.err hs 1 (hE 1 (by decide))
  obtain ⟨room, ⟨f0, i0, s0, n0⟩, ⟨f1, i1, s1, n1⟩, cut⟩ := s
  obtain ⟨A0, A1, A2, A3, c0, c1, c2, c3, h⟩ := pair_open hs
  dsimp only at *
  obtain ⟨hc, hf⟩ := h.swap.cells
  clear h
  go_enter Tryd.func20, Tryd.ntmps20
  go_wp2_with (first | (go_at_call 45; go_in) | (go_at_call 46; go_in) | (go_at_call 50; go_in))
  go_quiet (fail)
  go_wp2
  go_ret2
  exact ⟨rfl, hs0.drewN _⟩


theorem sShut_no {w : World} {R : List Asn} {B : BI} {p : Nat} {s : SPair} (hs : Sep w (base B :: pairA p s :: R)) (hE : ∀ k ∈ [1, 5, 17], k ∈ B.errs)  (e : Int) (h0 : (e == 0) = false) (h1 : (e == 1) = false) :
    Calls Tryd.prog 16 #[.pointer (some ⟨p, 0, none⟩), .int .i64 e] w fun r w' => r = .returned (errV B 1) ∧ Sep w' (base B :: pairA p s :: R) := by
  have hs0 := hs
  have e1 : World.cell? _ ⟨0, 0, none⟩ = some (.iface 178 (.pointer (some (B.E 1)))) := Sep.err hs 1 (hE 1 (by decide))
  obtain ⟨room, ⟨f0, i0, s0, n0⟩, ⟨f1, i1, s1, n1⟩, cut⟩ := s
  obtain ⟨A0, A1, A2, A3, c0, c1, c2, c3, h⟩ := pair_open hs
  dsimp only at *
  obtain ⟨hc, hf⟩ := h.swap.cells
  clear h
  go_enter Tryd.func16, Tryd.ntmps16
  go_wp2_with (first | (go_at_call 45; go_in) | (go_at_call 46; go_in) | (go_at_call 50; go_in))
  go_ret
  exact ⟨rfl, hs0⟩


theorem sShut_cut0 {w : World} {R : List Asn} {B : BI} {p : Nat} {s : SPair} (hs : Sep w (base B :: pairA p s :: R)) (hE : ∀ k ∈ [1, 5, 17], k ∈ B.errs)   (hcut : s.cut = true) :
    Calls Tryd.prog 16 #[.pointer (some ⟨p, 0, none⟩), .int .i64 0] w fun r w' => r = .returned (errV B 5) ∧ Sep w' (base B :: pairA p s :: R) := by
  have hs0 := hs
  have e5 : World.cell? _ ⟨5, 0, none⟩ = some (.iface 178 (.pointer (some (B.E 5)))) := Sep.err hs 5 (hE 5 (by decide))
  obtain ⟨room, ⟨f0, i0, s0, n0⟩, ⟨f1, i1, s1, n1⟩, cut⟩ := s
  obtain ⟨A0, A1, A2, A3, c0, c1, c2, c3, h⟩ := pair_open hs
  dsimp only at *
  subst hcut
  obtain ⟨hc, hf⟩ := h.swap.cells
  clear h
  go_enter Tryd.func16, Tryd.ntmps16
  go_wp2_with (first | (go_at_call 45; go_in) | (go_at_call 46; go_in) | (go_at_call 50; go_in))
  go_ret
  exact ⟨rfl, hs0⟩


theorem sShut_cut1 {w : World} {R : List Asn} {B : BI} {p : Nat} {s : SPair} (hs : Sep w (base B :: pairA p s :: R)) (hE : ∀ k ∈ [1, 5, 17], k ∈ B.errs)   (hcut : s.cut = true) :
    Calls Tryd.prog 16 #[.pointer (some ⟨p, 0, none⟩), .int .i64 1] w fun r w' => r = .returned (errV B 5) ∧ Sep w' (base B :: pairA p s :: R) := by
  have hs0 := hs
  have e5 : World.cell? _ ⟨5, 0, none⟩ = some (.iface 178 (.pointer (some (B.E 5)))) := Sep.err hs 5 (hE 5 (by decide))
  obtain ⟨room, ⟨f0, i0, s0, n0⟩, ⟨f1, i1, s1, n1⟩, cut⟩ := s
  obtain ⟨A0, A1, A2, A3, c0, c1, c2, c3, h⟩ := pair_open hs
  dsimp only at *
  subst hcut
  obtain ⟨hc, hf⟩ := h.swap.cells
  clear h
  go_enter Tryd.func16, Tryd.ntmps16
  go_wp2_with (first | (go_at_call 45; go_in) | (go_at_call 46; go_in) | (go_at_call 50; go_in))
  go_ret
  exact ⟨rfl, hs0⟩

end Go.Proofs.YtgegpjkihbhndaaDoor