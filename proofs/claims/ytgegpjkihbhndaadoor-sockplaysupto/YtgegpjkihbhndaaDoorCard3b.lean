/- What is proved: SockPlays' card, once the law's walk is given. -/
import Derived.Test.YtgegpjkihbhndaaDoorCard3
import Derived.Test.YtgegpjkihbhndaaDoorWit
import Derived.Test.YtgegpjkihbhndaaDoorTie
import Derived.Deep.DeepWitnessRowRef
namespace Go.Proofs.YtgegpjkihbhndaaDoor
open Go.ChangeShapes Go.WideShapes Go.RowKit
set_option linter.unusedVariables false
theorem own : ownKnob Tryd.prog.godebug = none := by kernel_rfl
set_option maxRecDepth 100000 in
theorem laid_met (os : Os) : laidMet Tryd.prog Rows.sockPlaysUptoRow.laid ((laidWorld os).forCall (fun _ _ => 0) ⟨#[], #[.int .i64 0, .slice none 0 0], []⟩).memory :=
  laidMet_of_run' 8 (by kernel_rfl) (by kernel_rfl)
theorem reads (os : Os) {H : Type} (enc : TypeId × Value → H) : ∃ places, DataW.whole enc Tryd.prog ((laidWorld os).forCall (fun _ _ => 0) ⟨#[], #[.int .i64 0, .slice none 0 0], []⟩).memory Tryd.f3.params.toList Rows.sockPlaysSpec.vars false #[Value.int .i64 0, .slice none 0 0].toList 8 = some ([.lit (.int .i64 0), .nil], [], places) :=
  ⟨[], by kernel_rfl⟩
set_option maxRecDepth 100000 in
theorem liftedUpto (law : ∀ {B : BI} (hE : B.all) {A : Option Addr} {c : Nat} {ops : List OpV} (hops : Script3 B.w0 A ops) (hnm : ops.length ≤ 281474976710656) {w : World} {R : List Asn} (hs : Sep w (base B :: R)) (room : Nat) (h1 : 1 ≤ room) (h2 : room ≤ 65536), Calls Tryd.prog 3 #[.int .i64 room, .slice A ops.length c] w fun r w' => r = .returned (.bool true) ∧ Sep w' (base B :: R)) (os : Os) (started : os.Started) (H : Type) (enc : TypeId × Value → H) (F : Stop.Interp) :
    ReturnsInHanded {} Tryd.checked os 3 .any ((Rows.OpenSpec.upto Rows.sockPlaysSpec).preRow enc Tryd.prog Tryd.f3 Rows.sockPlaysUptoRow.domain false Rows.sockPlaysUptoRow.laid) (((Rows.OpenSpec.upto Rows.sockPlaysSpec).at F).post enc Tryd.prog Tryd.f3 false true false false) := by
  obtain ⟨places, hx⟩ := reads os enc
  refine returnsInHanded_of_row (C := Tryd.checked) (s := Rows.OpenSpec.upto Rows.sockPlaysSpec) own started (by kernel_rfl) Tryd.func3
    (witness_row_atRef (enc := enc) (C := Tryd.checked) false (laidWorld os) #[.int .i64 0, .slice none 0 0] rfl (by kernel_rfl) (by kernel_rfl) (by kernel_rfl)
      (OpenSpec.preRow_of_cond 8 hx (by kernel_rfl) (fun k hk => by cases hk; kernel_rfl) (by kernel_rfl) (laid_met os))) ?_
  intro W base args ds gs before hval hW k1 k2 k3 hL k4 k5
  exact contract3 law H enc W base args ds gs before hval hW hL (by first | exact of_decide_eq_true (k1 _ rfl) | exact of_decide_eq_true (k2 _ rfl) | exact of_decide_eq_true (k4 _ rfl) | exact of_decide_eq_true (k5 _ rfl))
theorem saidUpto (law : ∀ {B : BI} (hE : B.all) {A : Option Addr} {c : Nat} {ops : List OpV} (hops : Script3 B.w0 A ops) (hnm : ops.length ≤ 281474976710656) {w : World} {R : List Asn} (hs : Sep w (base B :: R)) (room : Nat) (h1 : 1 ≤ room) (h2 : room ≤ 65536), Calls Tryd.prog 3 #[.int .i64 room, .slice A ops.length c] w fun r w' => r = .returned (.bool true) ∧ Sep w' (base B :: R)) : Rows.SockPlaysUptoSaid :=
  OpenClaim.holds_of_cond 3 Tryd.f3 rfl rfl rfl rfl rfl rfl rfl ⟨rfl, rfl, rfl, rfl, rfl⟩ rfl rfl rfl rfl rfl (by kernel_rfl) Tryd.func3 (by kernel_rfl)
    (of_decide_eq_true (by kernel_rfl)) (by unfold Func.isWrapper; first | (rw [if_pos (by decide +kernel)]; kernel_rfl) | (rw [if_neg (by decide +kernel)]; exact ⟨rfl, rfl⟩))
    (fun os started H enc _ F => by rw [OpenClaim.pre_eq_preRow]; exact liftedUpto law os started H enc F)
theorem plain (f : FuncId) (fn : Func) (hf : Tryd.pinned.checked.prog.funcNamed "jackfield/jackfieldlaw03.SockPlays" = some f) (hfn : Tryd.pinned.checked.prog.funcs[f]? = some fn) :
    true = Tryd.pinned.checked.prog.looks [] ∧ ∀ (j : Nat) t, fn.params[j]? = some t → Tryd.pinned.checked.prog.wantsStandIn t = false := by
  obtain rfl : f = 3 := Option.some.inj ((show Tryd.prog.funcNamed "jackfield/jackfieldlaw03.SockPlays" = some 3 by kernel_rfl).symm.trans hf) |>.symm
  obtain rfl : fn = Tryd.f3 := (Option.some.inj (Tryd.func3.symm.trans hfn)).symm
  refine ⟨by kernel_rfl, fun j t ht => ?_⟩
  rw [Tryd.params3] at ht
  have ht : t = 3 ∨ t = 22 := by simpa using Array.mem_of_getElem? ht
  rcases ht with rfl | rfl
  · exact (show Tryd.prog.wantsStandIn 3 = false by kernel_rfl)
  · exact (show Tryd.prog.wantsStandIn 22 = false by kernel_rfl)
theorem cardUpto (law : ∀ {B : BI} (hE : B.all) {A : Option Addr} {c : Nat} {ops : List OpV} (hops : Script3 B.w0 A ops) (hnm : ops.length ≤ 281474976710656) {w : World} {R : List Asn} (hs : Sep w (base B :: R)) (room : Nat) (h1 : 1 ≤ room) (h2 : room ≤ 65536), Calls Tryd.prog 3 #[.int .i64 room, .slice A ops.length c] w fun r w' => r = .returned (.bool true) ∧ Sep w' (base B :: R)) : Rows.SockPlaysUptoCardSaid :=
  Claim7.holds_tied_plain_at .later [] _ _ _ _ (saidUpto law) (fun _ h => by cases h) (by kernel_rfl) (fun _ h => by cases h) sockPlaysUpto_row_tie rfl ⟨rfl, rfl⟩ (by kernel_rfl) rfl plain (by kernel_rfl)
end Go.Proofs.YtgegpjkihbhndaaDoor
