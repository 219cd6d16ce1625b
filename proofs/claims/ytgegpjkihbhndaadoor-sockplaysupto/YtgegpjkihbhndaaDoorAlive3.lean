/- What is proved: the chapter's example of layer 3 comes true. Conditions: the errors are known. -/
import Derived.Test.YtgegpjkihbhndaaDoorRel3
import Derived.Lib.SlBytesConst
namespace Go.Proofs.YtgegpjkihbhndaaDoor
open Go.RowKit
set_option linter.unusedVariables false

/-- A row of a constant's bytes: the run-time's mark lies behind it. -/
theorem Sep.own_const {w : World} {l : List Asn} (h : Sep w l) (e : TypeId) (cs : Array Value) (n : Nat) (hn : cs.size = n) (hm : n ≤ maxLen) :
    Sep (w.alloc (.cells cs e (n, n + 1))) (Own e 1 (.slice (some ⟨w.heap.size, 0, none⟩) n n) n cs.toList :: l) := by
  subst hn
  refine h.grow (.alloc _ _) ⟨fun b => b = w.heap.size, ⟨by simp, .inr ⟨w.heap.size, 0, cs.size, cs, (cs.size, cs.size + 1), rfl, heap_alloc_new w _, Nat.le_refl _, hm, by omega, fun i _ h2 => by dsimp only; omega, fun j u hu => ?_, fun _ => Iff.rfl⟩⟩, fun b hb => by omega⟩
  rw [Nat.zero_add]
  simpa using hu

theorem alive_new : SPair.ok ⟨4, ⟨[], [], false, false⟩, ⟨[], [], false, false⟩, false⟩ := by simp [SPair.ok, SWay.ok]
theorem alive_w : SPair.write ⟨4, ⟨[], [], false, false⟩, ⟨[], [], false, false⟩, false⟩ 0 [97, 98, 99, 100, 101, 102] = (⟨4, ⟨[97, 98, 99, 100], [], false, false⟩, ⟨[], [], false, false⟩, false⟩, 4, 0) := rfl
theorem alive_c : SPair.carry ⟨4, ⟨[97, 98, 99, 100], [], false, false⟩, ⟨[], [], false, false⟩, false⟩ 0 3 = (⟨4, ⟨[100], [97, 98, 99], false, false⟩, ⟨[], [], false, false⟩, false⟩, 3, 0) := rfl
theorem alive_r : SPair.read ⟨4, ⟨[100], [97, 98, 99], false, false⟩, ⟨[], [], false, false⟩, false⟩ 1 2 = (⟨4, ⟨[100], [99], false, false⟩, ⟨[], [], false, false⟩, false⟩, [97, 98], 0) := rfl
theorem alive_m : SPair.roomOf ⟨4, ⟨[100], [99], false, false⟩, ⟨[], [], false, false⟩, false⟩ 0 = 2 := rfl
theorem alive_x : sCut ⟨4, ⟨[100], [99], false, false⟩, ⟨[], [], false, false⟩, false⟩ = ⟨4, ⟨[], [99], false, false⟩, ⟨[], [], false, false⟩, true⟩ := rfl
theorem alive_r2 : SPair.read ⟨4, ⟨[], [99], false, false⟩, ⟨[], [], false, false⟩, true⟩ 1 9 = (⟨4, ⟨[], [], false, false⟩, ⟨[], [], false, false⟩, true⟩, [99], 0) := rfl
theorem alive_r3 : SPair.read ⟨4, ⟨[], [], false, false⟩, ⟨[], [], false, false⟩, true⟩ 1 9 = (⟨4, ⟨[], [], false, false⟩, ⟨[], [], false, false⟩, true⟩, [], 5) := rfl
theorem alive_ok (s : SPair) (h : s.room = 4) (ha : s.a.fl.length + s.a.ib.length ≤ 4) (hb : s.b.fl.length + s.b.ib.length ≤ 4) : s.ok := by
  refine ⟨by omega, ?_, ?_⟩ <;> unfold SWay.ok <;> omega

set_option maxHeartbeats 1600000 in
set_option maxRecDepth 100000 in
theorem alive3 {w : World} {B : BI} {R : List Asn} (hs : Sep w (base B :: R)) (hE : B.all) :
    Calls Tryd.prog 9 #[] w fun r w' => r = .returned (.bool true) ∧ Sep w' (base B :: R) := by
  have heq : ∀ w', (binOp .eql 26 (.iface 178 (.pointer (some (B.E 5)))) (.iface 178 (.pointer (some (B.E 5))))).run Tryd.prog w' = .ok (.bool true) w' := fun w' =>
    run_eql_iface_ptr_same (P := Tryd.prog) (i := Tryd.t178) (j := Tryd.t202) w' (B.E 5) Tryd.underlying26 Tryd.underlying178 (by kernel_rfl) (by kernel_rfl) (by kernel_rfl)
  have kc := fun (w : World) (C : Array Value) (n c : Nat) => Lib.run_convert_bytes_const (P := Tryd.prog) w 30 5 C n c Tryd.underlying30 Tryd.underlying5
  have v0 : errV B 0 = .nilIface := rfl
  have v5 : errV B 5 = .iface 178 (.pointer (some (B.E 5))) := rfl
  have d0 := sNew_ok hs 4 (by omega) (by omega)
  go_enter Tryd.func9, Tryd.ntmps9
  go_wp2_with (go_at_call 10; refine d0.mono ?c1)
  case c1 =>
  rintro r w1 ⟨p, rfl, h1⟩
  clear hs d0
  have h2 := (h1.own_const 5 #[.int .u8 97, .int .u8 98, .int .u8 99, .int .u8 100, .int .u8 101, .int .u8 102] 6 rfl (by decide))
  have d1 := sWrite_any (l := [97, 98, 99, 100, 101, 102]) (Sep.re (xs := [_, _, _]) h2 [1, 2, 0] (by decide) rfl) alive_new hE (Sep.rd h2) 0
  rw [alive_w] at d1
  dsimp only at d1
  rw [v0] at d1
  try dsimp only at d1
  clear h1 h2
  go_wp2_with (go_at_call 12; refine d1.mono ?c2)
  case c2 =>
  rintro r w2 ⟨rfl, h2⟩
  clear d1
  have d2 := sCarry_any h2 (alive_ok _ rfl (by decide) (by decide)) hE 0 3
  try dsimp only at d2
  rw [alive_c] at d2
  dsimp only at d2
  rw [v0] at d2
  try dsimp only at d2
  clear h2
  go_wp2_with (go_at_call 18; refine d2.mono ?c3)
  case c3 =>
  rintro r w3 ⟨rfl, h3⟩
  clear d2
  have d3 := sRead_any h3 (alive_ok _ rfl (by decide) (by decide)) hE 1 2
  try dsimp only at d3
  rw [alive_r] at d3
  dsimp only at d3
  rw [v0] at d3
  try dsimp only at d3
  clear h3
  go_wp2_with (go_at_call 20; refine d3.mono ?c4)
  case c4 =>
  rintro r w4 ⟨A4, m4, x4, rfl, hm4, h4⟩
  clear d3
  have d4 := sRoom_any h4 (alive_ok _ rfl (by decide) (by decide)) 0
  try dsimp only at d4
  rw [alive_m] at d4
  try dsimp only at d4
  clear h4
  go_wp2_with (go_at_call 24; refine d4.mono ?c5)
  case c5 =>
  rintro r w5 ⟨rfl, h5⟩
  clear d4
  have d5 := sCut_any h5 (alive_ok _ rfl (by decide) (by decide))
  try dsimp only at d5
  rw [alive_x] at d5
  try dsimp only at d5
  clear h5
  go_wp2_with (go_at_call 22; refine d5.mono ?c6)
  case c6 =>
  rintro r w6 ⟨rfl, h6⟩
  clear d5
  have d6 := sRead_any h6 (alive_ok _ rfl (by decide) (by decide)) hE 1 9
  try dsimp only at d6
  rw [alive_r2] at d6
  dsimp only at d6
  rw [v0] at d6
  try dsimp only at d6
  clear h6
  go_wp2_with (go_at_call 20; refine d6.mono ?c7)
  case c7 =>
  rintro r w7 ⟨A7, m7, x7, rfl, hm7, h7⟩
  clear d6
  have d7 := sRead_any h7 (alive_ok _ rfl (by decide) (by decide)) hE 1 9
  try dsimp only at d7
  rw [alive_r3] at d7
  dsimp only at d7
  rw [v5] at d7
  try dsimp only at d7
  clear h7
  go_wp2_with (go_at_call 20; refine d7.mono ?c8)
  case c8 =>
  rintro r w8 ⟨A8, m8, x8, rfl, hm8, h8⟩
  clear d7
  have h9 := Sep.re (xs := [_, _, _, _, _]) h8 [3, 0, 1, 2, 4] (by decide) rfl
  have h10 := Sep.re (xs := [_, _, _, _, _]) h8 [4, 0, 1, 2, 3] (by decide) rfl
  have k7 := (Sep.rd h9).conv
  have k4 := (Sep.rd h10).conv
  rw [show sv [99] = .string ⟨#[99]⟩ from rfl] at k7
  rw [show sv [97, 98] = .string ⟨#[97, 98]⟩ from rfl] at k4
  have e5 : World.cell? w8 ⟨5, 0, none⟩ = some (.iface 178 (.pointer (some (B.E 5)))) := Sep.err h8 5 (hE 5 (by decide))
  have h11 : Sep w8 (base B :: R) := h8.drop1.drop1.drop1.drop1.drop1
  have h12 := hid h11
  clear h8 h9 h10 h11
  go_wp2
  go_ret
  exact ⟨rfl, h12.out⟩
end Go.Proofs.YtgegpjkihbhndaaDoor
