/- What is proved: the errors that a row lists are known. Conditions: the list is met. -/
import Derived.Test.YtgegpjkihbhndaaDoorLaid
namespace Go.Proofs.YtgegpjkihbhndaaDoor
open Go.RowKit
set_option linter.unusedVariables false

def errName : Nat → String
  | 1 => "jackfield/api.ErrRange"
  | 2 => "jackfield/api.ErrShort"
  | 3 => "jackfield/api.ErrLong"
  | 4 => "jackfield/api.ErrTail"
  | 5 => "jackfield/api.ErrBroken"
  | 6 => "jackfield/api.ErrPower"
  | 7 => "jackfield/api.ErrFrame"
  | 8 => "jackfield/api.ErrFull"
  | 9 => "jackfield/api.ErrGap"
  | 10 => "jackfield/api.ErrName"
  | 11 => "jackfield/api.ErrTaken"
  | 12 => "jackfield/api.ErrNone"
  | 13 => "jackfield/api.ErrOwner"
  | 14 => "jackfield/api.ErrProof"
  | 15 => "jackfield/api.ErrWindow"
  | 16 => "jackfield/api.ErrStream"
  | 17 => "jackfield/api.ErrState"
  | _ => "jackfield/api.ErrBusy"
def errText : Nat → List UInt8
  | 1 => [106, 97, 99, 107, 102, 105, 101, 108, 100, 58, 32, 114, 97, 110, 103, 101]
  | 2 => [106, 97, 99, 107, 102, 105, 101, 108, 100, 58, 32, 115, 104, 111, 114, 116]
  | 3 => [106, 97, 99, 107, 102, 105, 101, 108, 100, 58, 32, 108, 111, 110, 103]
  | 4 => [106, 97, 99, 107, 102, 105, 101, 108, 100, 58, 32, 116, 97, 105, 108]
  | 5 => [106, 97, 99, 107, 102, 105, 101, 108, 100, 58, 32, 98, 114, 111, 107, 101, 110]
  | 6 => [106, 97, 99, 107, 102, 105, 101, 108, 100, 58, 32, 112, 111, 119, 101, 114]
  | 7 => [106, 97, 99, 107, 102, 105, 101, 108, 100, 58, 32, 102, 114, 97, 109, 101]
  | 8 => [106, 97, 99, 107, 102, 105, 101, 108, 100, 58, 32, 102, 117, 108, 108]
  | 9 => [106, 97, 99, 107, 102, 105, 101, 108, 100, 58, 32, 103, 97, 112]
  | 10 => [106, 97, 99, 107, 102, 105, 101, 108, 100, 58, 32, 110, 97, 109, 101]
  | 11 => [106, 97, 99, 107, 102, 105, 101, 108, 100, 58, 32, 116, 97, 107, 101, 110]
  | 12 => [106, 97, 99, 107, 102, 105, 101, 108, 100, 58, 32, 110, 111, 110, 101]
  | 13 => [106, 97, 99, 107, 102, 105, 101, 108, 100, 58, 32, 111, 119, 110, 101, 114]
  | 14 => [106, 97, 99, 107, 102, 105, 101, 108, 100, 58, 32, 112, 114, 111, 111, 102]
  | 15 => [106, 97, 99, 107, 102, 105, 101, 108, 100, 58, 32, 119, 105, 110, 100, 111, 119]
  | 16 => [106, 97, 99, 107, 102, 105, 101, 108, 100, 58, 32, 115, 116, 114, 101, 97, 109]
  | 17 => [106, 97, 99, 107, 102, 105, 101, 108, 100, 58, 32, 115, 116, 97, 116, 101]
  | _ => [106, 97, 99, 107, 102, 105, 101, 108, 100, 58, 32, 98, 117, 115, 121]
def errD (k : Nat) : DataW Unit := .iface "*errors.errorString" (.ptr (.agg [.lit (.string (errText k))]))
theorem errText_inj : ∀ j, j < 18 → ∀ k, k < 18 → errText (j + 1) = errText (k + 1) → j = k := by decide
theorem errGlob : ∀ k, k < 18 → Tryd.prog.globalNamed (errName (k + 1)) = some (gno (k + 1)) ∧ (Tryd.prog.globals[gno (k + 1)]?).map (·.type) = some 26 := by
  intro k hk
  obtain rfl | rfl | rfl | rfl | rfl | rfl | rfl | rfl | rfl | rfl | rfl | rfl | rfl | rfl | rfl | rfl | rfl | rfl : k = 0 ∨ k = 1 ∨ k = 2 ∨ k = 3 ∨ k = 4 ∨ k = 5 ∨ k = 6 ∨ k = 7 ∨ k = 8 ∨ k = 9 ∨ k = 10 ∨ k = 11 ∨ k = 12 ∨ k = 13 ∨ k = 14 ∨ k = 15 ∨ k = 16 ∨ k = 17 := by omega
  all_goals exact ⟨by kernel_rfl, by kernel_rfl⟩
set_option maxRecDepth 100000 in
theorem globs_of_laid {W : World} {laid : List (String × DataW Unit)} (h : laidMet Tryd.prog laid W) (errs : List Nat) (hall : ∀ k ∈ errs, 1 ≤ k ∧ k ≤ 18 ∧ (errName k, errD k) ∈ laid) :
    ∃ E, Globs ⟨W, E, errs⟩ := by
  have hx : ∀ k, ∃ a : Addr, k ∈ errs → ∃ (s : ByteArray) (cs : Array Value) (t : TypeId), W.cell? ⟨gno k, 0, none⟩ = some (.iface 178 (.pointer (some a))) ∧ W.cell? a = some (.string s) ∧ s.data.toList = errText k ∧ W.heap[a.block]? = some (.cells cs t (0, 0)) := fun k => by
    by_cases hk : k ∈ errs
    · obtain ⟨h1, h2, h3⟩ := hall k hk
      obtain ⟨j, rfl⟩ : ∃ j, k = j + 1 := ⟨k - 1, by omega⟩
      obtain ⟨g1, g2⟩ := errGlob j (by omega)
      obtain ⟨a, s, cs, t, hh⟩ := laid_err h h3 g1 g2
      exact ⟨a, fun _ => ⟨s, cs, t, hh⟩⟩
    · exact ⟨⟨0, 0, none⟩, fun h => absurd h hk⟩
  obtain ⟨E, hE⟩ := Classical.axiomOfChoice hx
  refine ⟨E, ⟨fun k hk => ?_, fun k hk => ?_, fun j hj k hk hjk he => ?_⟩⟩
  · obtain ⟨s, cs, t, h1, _⟩ := hE k hk
    obtain ⟨h2, _⟩ := hall k hk
    obtain ⟨j, rfl⟩ : ∃ j, k = j + 1 := ⟨k - 1, by omega⟩
    exact h1
  · obtain ⟨s, cs, t, _, _, _, h2⟩ := hE k hk
    exact ⟨cs, t, h2⟩
  · obtain ⟨s, _, _, _, h1, h2, _⟩ := hE j hj
    obtain ⟨s', _, _, _, h1', h2', _⟩ := hE k hk
    have he : E j = E k := he
    rw [he] at h1
    have : s = s' := by
      have := h1.symm.trans h1'
      simpa using this
    subst this
    obtain ⟨a1, a2, _⟩ := hall j hj
    obtain ⟨b1, b2, _⟩ := hall k hk
    obtain ⟨j', rfl⟩ : ∃ j', j = j' + 1 := ⟨j - 1, by omega⟩
    obtain ⟨k', rfl⟩ : ∃ k', k = k' + 1 := ⟨k - 1, by omega⟩
    exact hjk (by rw [errText_inj j' (by omega) k' (by omega) (h2.symm.trans h2')])
end Go.Proofs.YtgegpjkihbhndaaDoor
