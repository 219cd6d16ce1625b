/- What is taken out: block 2 of SockPlays (the switch), by a function. -/
import Derived.Test.YtgegpjkihbhndaaDoorLaw3a
import Derived.Deep.LoopGhost
import Derived.Deep.CutBlock
import Derived.Deep.DeepCutAuto
import Derived.Deep.MidRow
import Derived.Deep.RegionHeld3
import Derived.StillTailTactics
namespace Go.Proofs.YtgegpjkihbhndaaDoor
open Go.RowKit
set_option linter.unusedVariables false
def findBlock (n : Nat) : Code → Option Code
  | .block m c => if m = n then some (.block m c) else findBlock n c
  | .seq a b => match findBlock n a with
    | some c => some c
    | none => findBlock n b
  | .loop c => findBlock n c
  | .scope c => findBlock n c
  | .cond _ a b => match findBlock n a with
    | some c => some c
    | none => findBlock n b
  | _ => none
noncomputable def blk2 : Code := (Tryd.f3.body.bind (findBlock 2)).getD .skip
theorem Sep.cell3 {w : World} {a b d : Asn} {R : List Asn} {g t : Nat} {cs : Array Value} (h : Sep w (a :: b :: d :: Blk g t cs :: R)) (i : Nat) (v : Value) (hv : cs[i]? = some v) : w.cell? ⟨g, i, none⟩ = some v :=
  ((Sep.re (xs := [_, _, _, _]) h [3, 0, 1, 2] (by decide) rfl).cells.1 i).trans hv
theorem Sep.cell4 {w : World} {a b d f : Asn} {R : List Asn} {g t : Nat} {cs : Array Value} (h : Sep w (a :: b :: d :: f :: Blk g t cs :: R)) (i : Nat) (v : Value) (hv : cs[i]? = some v) : w.cell? ⟨g, i, none⟩ = some v :=
  ((Sep.re (xs := [_, _, _, _, _]) h [4, 0, 1, 2, 3] (by decide) rfl).cells.1 i).trans hv

theorem own_cut {w : World} {A : Option Addr} {c k : Nat} {l : List UInt8} {R : List Asn} (h : Sep w (OwnB (.slice A l.length c) l :: R)) (hk : k ≤ l.length) : Sep w (OwnB (.slice A (l.take k).length c) (l.take k) :: R) := by
  have := Sep.own_take (e := 5) (size := 1) h hk
  have e : (l.take k).length = k := by rw [List.length_take]; omega
  unfold OwnB
  rw [e, bv_take]
  exact this
/-- The reference's pair, as the law has cut it. -/
theorem ref_gone {w : World} {B : BI} {q room : Nat} {a b : RWay} {A0 A1 : Option Addr} {c0 c1 n0 n1 : Nat} {s0 s1 : Bool} {R : List Asn}
    (h : Sep w (Blk q 35 #[.int .i64 room, .slice A0 n0 c0, .int .i64 a.car, .int .i64 a.rd, .bool s0, .slice A1 n1 c1, .int .i64 b.car, .int .i64 b.rd, .bool s1, .bool true] :: base B :: OwnB (.slice A0 a.all.length c0) a.all :: OwnB (.slice A1 b.all.length c1) b.all :: R))
    (h0 : n0 ≤ a.all.length) (h1 : n1 ≤ b.all.length) (g0 : a.gone = { a with all := a.all.take n0, sh := s0 }) (g1 : b.gone = { b with all := b.all.take n1, sh := s1 }) :
    Sep w (base B :: refA q ⟨room, a.gone, b.gone, true⟩ :: R) := by
  rw [g0, g1]
  have e0 : n0 = (a.all.take n0).length := by rw [List.length_take]; omega
  have e1 : n1 = (b.all.take n1).length := by rw [List.length_take]; omega
  have k1 := own_cut (Sep.re (xs := [_, _, _, _]) h [2, 0, 1, 3] (by decide) rfl) h0
  have k2 := own_cut (Sep.re (xs := [_, _, _, _]) k1 [3, 0, 1, 2] (by decide) rfl) h1
  have k3 := Sep.re (xs := [_, _, _, _]) k2 [3, 2, 1, 0] (by decide) rfl
  refine ref_close (A0 := A0) (A1 := A1) (c0 := c0) (c1 := c1) ?_
  dsimp only
  rw [← e0, ← e1] at k3 ⊢
  exact k3
theorem RWay.gone_yes (a : RWay) (h : a.car < a.all.length) : a.gone = { a with all := a.all.take a.car, sh := false } := by rw [RWay.gone, if_pos h]
theorem RWay.gone_no (a : RWay) (h : ¬ a.car < a.all.length) : a.gone = { a with all := a.all.take a.all.length, sh := a.sh } := by rw [RWay.gone, if_neg h, List.take_length]

theorem use_blk2 {c : Code} {Q : Exit → Act → World → Prop} {a : Act} {w : World} (h : c = blk2) (H : Code.wp Tryd.prog blk2 Q a w) : Code.wp Tryd.prog c Q a w := h ▸ H
end Go.Proofs.YtgegpjkihbhndaaDoor
