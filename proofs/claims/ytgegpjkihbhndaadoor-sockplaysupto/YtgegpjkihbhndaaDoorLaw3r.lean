/- What is proved: SockPlays returns true for every room that is none. Conditions: the errors are known. -/
import Derived.Test.YtgegpjkihbhndaaDoorLaw3a
namespace Go.Proofs.YtgegpjkihbhndaaDoor
open Go.RowKit
set_option linter.unusedVariables false
set_option maxHeartbeats 1600000 in
set_option maxRecDepth 100000 in
theorem law3_no {B : BI} (hE : B.all) {v : Value} {w : World} {R : List Asn} (hs : Sep w (base B :: R)) (room : Int) (hroom : room < 1 ∨ 65536 < room) :
    Calls Tryd.prog 3 #[.int .i64 room, v] w fun r w' => r = .returned (.bool true) ∧ Sep w' (base B :: R) := by
  have heq : ∀ w', (binOp .eql 26 (.iface 178 (.pointer (some (B.E 1)))) (.iface 178 (.pointer (some (B.E 1))))).run Tryd.prog w' = .ok (.bool true) w' := fun w' =>
    run_eql_iface_ptr_same (P := Tryd.prog) (i := Tryd.t178) (j := Tryd.t202) w' (B.E 1) Tryd.underlying26 Tryd.underlying178 (by kernel_rfl) (by kernel_rfl) (by kernel_rfl)
  have v1 : errV B 1 = .iface 178 (.pointer (some (B.E 1))) := rfl
  have d0 := alive3 hs hE
  have hdec : (decide (room < 1) || decide (65536 < room)) = true := by simpa using hroom
  have HR := hid hroom
  clear hroom
  rcases HR.out with hlo | hhi
  · have hlo' : decide (room < 1) = true := by simpa using hlo
    go_enter Tryd.func3, Tryd.ntmps3
    go_wp2_with (go_at_call 9; refine d0.mono ?c1)
    case c1 =>
    rintro r w1 ⟨rfl, hs⟩
    clear d0
    have d0 := sNew_no hs hE.three room HR.out
    rw [v1] at d0
    go_wp2_with (go_at_call 10; refine d0.mono ?c2)
    case c2 =>
    rintro r w2 ⟨rfl, hs⟩
    clear d0
    have e1 : World.cell? _ ⟨0, 0, none⟩ = some (.iface 178 (.pointer (some (B.E 1)))) := Sep.err hs 1 (hE 1 (by decide))
    have Hs := hid hs
    clear hs
    go_wp2
    go_ret
    exact ⟨rfl, Hs.out⟩
  · have hhi' : decide (65536 < room) = true := by simpa using hhi
    have hlo' : decide (room < 1) = false := by simp; omega
    go_enter Tryd.func3, Tryd.ntmps3
    go_wp2_with (go_at_call 9; refine d0.mono ?c1)
    case c1 =>
    rintro r w1 ⟨rfl, hs⟩
    clear d0
    have d0 := sNew_no hs hE.three room HR.out
    rw [v1] at d0
    go_wp2_with (go_at_call 10; refine d0.mono ?c2)
    case c2 =>
    rintro r w2 ⟨rfl, hs⟩
    clear d0
    have e1 : World.cell? _ ⟨0, 0, none⟩ = some (.iface 178 (.pointer (some (B.E 1)))) := Sep.err hs 1 (hE 1 (by decide))
    have Hs := hid hs
    clear hs
    go_wp2
    go_ret
    exact ⟨rfl, Hs.out⟩
end Go.Proofs.YtgegpjkihbhndaaDoor
