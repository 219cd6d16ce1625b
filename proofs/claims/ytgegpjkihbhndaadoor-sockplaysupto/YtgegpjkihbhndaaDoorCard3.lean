/- What is proved: SockPlays' contract over the row's input. Conditions: the row's own. -/
import Derived.Test.YtgegpjkihbhndaaDoorOpen3
import Derived.Test.YtgegpjkihbhndaaDoorLaid2
import Derived.Test.YtgegpjkihbhndaaDoorLaw3r
import Derived.Test.YtgegpjkihbhndaaDoorCards
import Derived.WalkKit
import Derived.ProofKit
import Derived.OpenShut
import Derived.Carry
import Derived.Deep.DeepHandedRow
namespace Go.Proofs.YtgegpjkihbhndaaDoor
open Go.ChangeShapes Go.WideShapes Go.RowKit
set_option linter.unusedVariables false

theorem sep_base {W : World} {E : Nat → Addr} {errs : List Nat} (h : Globs ⟨W, E, errs⟩) : Sep W [base ⟨W, E, errs⟩] :=
  ⟨fun b => b < W.heap.size, fun b => b < W.heap.size, fun _ => False, ⟨h, Keep.refl _ _, fun _ => Iff.rfl⟩, fun _ => id, fun _ _ h => h, fun _ => by simp⟩
set_option maxRecDepth 100000 in
theorem contract3 (law : ∀ {B : BI} (hE : B.all) {A : Option Addr} {c : Nat} {ops : List OpV} (hops : Script3 B.w0 A ops) (hnm : ops.length ≤ 281474976710656) {w : World} {R : List Asn} (hs : Sep w (base B :: R)) (room : Nat) (h1 : 1 ≤ room) (h2 : room ≤ 65536),
      Calls Tryd.prog 3 #[.int .i64 room, .slice A ops.length c] w fun r w' => r = .returned (.bool true) ∧ Sep w' (base B :: R))
    (H : Type) (enc : TypeId × Value → H) (W : World) (base' : Nat) (args : Array Value) (ds gs : List (DataW H)) (before : List MemPlace)
    (hval : ∀ (j : Nat) t v, Tryd.f3.params[j]? = some t → args[j]? = some v → Value.okWide Tryd.prog W .any base' t v)
    (hW : DataW.Whole enc Tryd.prog Tryd.f3.params.toList Rows.sockPlaysSpec.vars false W args.toList ds gs before) (hL : laidMetH Tryd.prog Rows.sockPlaysUptoRow.laid W) (hb : Rows.uptoBulkAll (ds ++ gs) ≤ 1048576) :
    Calls Tryd.prog 3 args W fun e W' => ∃ v, e = .returned v ∧ Rows.sockPlaysSpec.post enc Tryd.prog Tryd.f3 false true false false W args v W' := by
  have hW' := hW
  obtain ⟨p, q, hA0, hV, rfl, hfz, hnd⟩ := hW
  have hA : DataW.TrodAll enc Tryd.prog W 0 (fun _ => true) true Tryd.f3.params.toList args.toList ds p := hA0
  rw [Tryd.params3] at hA hval
  obtain ⟨v0, v1, d0, d1, p0, p1, rfl, rfl, rfl, h0, h1⟩ := trodAll_two hA
  obtain ⟨rfl, rfl⟩ := trodVars_none hV
  obtain ⟨room, rfl, rfl, rfl, hwn⟩ := open_int Tryd.underlying3 (hval 0 3 v0 rfl rfl) h0
  obtain ⟨A0, n0, c0, rfl⟩ := okWide_slice Tryd.underlying22 (hval 1 _ v1 rfl rfl)
  have hb1 : Rows.uptoBulk d1 ≤ 1048576 := by
    simp only [List.append_nil, Rows.uptoBulkAll] at hb
    omega
  obtain ⟨fuel, hf⟩ := h1
  obtain ⟨A, c, ops, hcs, hops, hlen⟩ := open_script (tb := 0) (tu := 5) Tryd.underlying22 Tryd.underlying37 (by kernel_rfl) Tryd.underlying3 Tryd.underlying3 Tryd.underlying3 Tryd.underlying30 Tryd.underlying5 rfl rfl rfl rfl (by kernel_rfl) (by kernel_rfl) (by kernel_rfl) (by kernel_rfl) (by kernel_rfl) hb1 hf
  simp [Value.cells] at hcs
  obtain ⟨rfl, rfl, rfl⟩ := hcs
  obtain ⟨E, hG⟩ := globs_of_laid (laid := Rows.sockPlaysUptoRow.laid) (W := W) hL [1, 2, 3, 4, 5, 6, 7, 8, 9, 10, 11, 12, 13, 14, 15, 16, 17, 18] (by
    intro k hk
    simp only [List.mem_cons, List.not_mem_nil, or_false] at hk
    refine ⟨by omega, by omega, ?_⟩
    rcases hk with rfl | rfl | rfl | rfl | rfl | rfl | rfl | rfl | rfl | rfl | rfl | rfl | rfl | rfl | rfl | rfl | rfl | rfl
    all_goals (simp [Rows.sockPlaysUptoRow, errName, errD, errText, Rows.laid_jackfield_api_ErrRange, Rows.laid_jackfield_api_ErrShort, Rows.laid_jackfield_api_ErrLong, Rows.laid_jackfield_api_ErrTail, Rows.laid_jackfield_api_ErrBroken, Rows.laid_jackfield_api_ErrPower, Rows.laid_jackfield_api_ErrFrame, Rows.laid_jackfield_api_ErrFull, Rows.laid_jackfield_api_ErrGap, Rows.laid_jackfield_api_ErrName, Rows.laid_jackfield_api_ErrTaken, Rows.laid_jackfield_api_ErrNone, Rows.laid_jackfield_api_ErrOwner, Rows.laid_jackfield_api_ErrProof, Rows.laid_jackfield_api_ErrWindow, Rows.laid_jackfield_api_ErrStream, Rows.laid_jackfield_api_ErrState, Rows.laid_jackfield_api_ErrBusy]))
  have hE : BI.all ⟨W, E, [1, 2, 3, 4, 5, 6, 7, 8, 9, 10, 11, 12, 13, 14, 15, 16, 17, 18]⟩ := fun k hk => hk
  have hlt : ∀ x ∈ p1, x.block < W.heap.size := fun x hx => by simpa using hW'.lt x (by simpa using hx)
  have h1 : DataW.Trod enc Tryd.prog W 0 (fun _ => true) true 22 (.slice A0 ops.length c0) d1 p1 := ⟨fuel, hf⟩
  have walk : Calls Tryd.prog 3 #[.int .i64 room, .slice A0 ops.length c0] W fun e w' => e = .returned (.bool true) ∧ Sep w' (base ⟨W, E, [1, 2, 3, 4, 5, 6, 7, 8, 9, 10, 11, 12, 13, 14, 15, 16, 17, 18]⟩ :: []) := by
    by_cases hr : room < 1 ∨ 65536 < room
    · exact law3_no hE (sep_base hG) room hr
    · obtain ⟨k, rfl⟩ := Int.eq_ofNat_of_zero_le (by omega : 0 ≤ room)
      exact law hE hops (by omega) (sep_base hG) k (by omega) (by omega)
  clear law hval hf hlen hops hG
  refine walk.mono fun e W' ⟨he, hs⟩ => ?_
  subst he
  have hbel : Below W.heap.size W W' := hs.below
  refine ⟨_, rfl, _, _, _, [], [] ++ p1, [], hW', trodAll_mk1 (shut_bool Tryd.underlying4 _), ?_, ?_, hbel.frame _, fun h => by cases h⟩
  · exact trodAll_mk2 (p := []) (p' := p1) (shut_int Tryd.underlying3 hwn) (Below.trod (by kernel_rfl) (by kernel_rfl) (of_decide_eq_true (by kernel_rfl)) h1 hbel hlt)
  · exact rfl
end Go.Proofs.YtgegpjkihbhndaaDoor
