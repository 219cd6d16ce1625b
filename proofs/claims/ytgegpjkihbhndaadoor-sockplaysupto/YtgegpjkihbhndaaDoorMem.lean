/- What is proved: plain laws of a separating list of assertions on the model's memory. Conditions: none. -/
import Derived.WalkKit
import Derived.Maps.AppendAt
import Derived.Deep.AppendLies
import Derived.Deep.Draws
namespace Go.Proofs.YtgegpjkihbhndaaDoor
open Go.RowKit
set_option linter.unusedVariables false

theorem hid {p : Prop} (h : p) : Hid p := h
/-- 'w'' is 'w' on the blocks of F; the streams are as they were; no block has gone. -/
structure Keep (F : Nat → Prop) (w w' : World) : Prop where
  os : w'.os = w.os
  tape : w'.tape = w.tape
  output : w'.output = w.output
  size : w.heap.size ≤ w'.heap.size
  block : ∀ b, F b → w'.heap[b]? = w.heap[b]?

theorem Keep.refl (F : Nat → Prop) (w : World) : Keep F w w := ⟨rfl, rfl, rfl, Nat.le_refl _, fun _ _ => rfl⟩
theorem Keep.trans {F G : Nat → Prop} {a b c : World} (h : Keep F a b) (k : Keep G b c) : Keep (fun x => F x ∧ G x) a c :=
  ⟨k.os.trans h.os, k.tape.trans h.tape, k.output.trans h.output, Nat.le_trans h.size k.size, fun x hx => (k.block x hx.2).trans (h.block x hx.1)⟩
theorem Keep.mono {F G : Nat → Prop} {a b : World} (h : Keep F a b) (hg : ∀ x, G x → F x) : Keep G a b := ⟨h.os, h.tape, h.output, h.size, fun x hx => h.block x (hg x hx)⟩
theorem Keep.drew {F : Nat → Prop} {a b : World} (h : Keep F a b) : Keep F a b.drew := ⟨h.os, h.tape, h.output, h.size, h.block⟩
theorem Keep.drewN {F : Nat → Prop} {a b : World} (h : Keep F a b) (n : Nat) : Keep F a (b.drewN n) := ⟨h.os, h.tape, h.output, h.size, h.block⟩
theorem Keep.of_alike {F : Nat → Prop} {a b : World} (h : b.Alike a) (ht : b.tape = a.tape) : Keep F a b :=
  ⟨h.2.1, ht, h.2.2, by rw [h.1]; exact Nat.le_refl _, fun _ _ => by rw [h.1]⟩
theorem Keep.alloc (w : World) (o : Obj) : Keep (fun b => b < w.heap.size) w (w.alloc o) := ⟨rfl, rfl, rfl, by simp, fun b hb => Below.heap_alloc w o b hb⟩
theorem Keep.setCell (w : World) (a : Addr) (v : Value) : Keep (fun b => b ≠ a.block) w (w.setCell a v) := ⟨rfl, rfl, rfl, by simp, fun b hb => Below.heap_setCell w a v b hb⟩
theorem Keep.grown {w w' : World} {row : Option Nat} (h : w.grownBy w' row) : Keep (fun b => b < w.heap.size ∧ some b ≠ row) w w' := ⟨h.os, h.tape, h.output, h.size, fun b hb => h.block b hb.1 hb.2⟩
theorem Keep.below {w w' : World} {B : Nat} (h : Below B w w') : Keep (fun b => b < B) w w' := ⟨h.os, h.tape, h.output, h.size, h.block⟩

/-- An assertion on a part of memory. -/
structure Asn where
  holds : World → (Nat → Prop) → Prop
  lt : ∀ {w F}, holds w F → ∀ b, F b → b < w.heap.size
  keep : ∀ {w w' F}, holds w F → Keep F w w' → holds w' F

/-- Assertions on parts that share nothing; F: all of them. -/
def SepE (w : World) : List Asn → (Nat → Prop) → Prop
  | [], F => ∀ b, ¬ F b
  | a :: l, F => ∃ F1 F2, a.holds w F1 ∧ SepE w l F2 ∧ (∀ b, F1 b → ¬ F2 b) ∧ ∀ b, F b ↔ (F1 b ∨ F2 b)

theorem SepE.lt {w : World} : ∀ {l : List Asn} {F : Nat → Prop}, SepE w l F → ∀ b, F b → b < w.heap.size
  | [], _, h, b, hb => absurd hb (h b)
  | a :: _, _, ⟨_, _, h1, h2, _, h4⟩, b, hb => by
    rcases (h4 b).1 hb with h | h
    · exact a.lt h1 b h
    · exact SepE.lt h2 b h
theorem SepE.keep {w w' : World} : ∀ {l : List Asn} {F : Nat → Prop}, SepE w l F → Keep F w w' → SepE w' l F
  | [], _, h, _ => h
  | a :: _, _, ⟨F1, F2, h1, h2, h3, h4⟩, k =>
    ⟨F1, F2, a.keep h1 (k.mono fun b hb => (h4 b).2 (.inl hb)), SepE.keep h2 (k.mono fun b hb => (h4 b).2 (.inr hb)), h3, h4⟩
theorem SepE.app {w : World} : ∀ {l m : List Asn} {F G : Nat → Prop}, SepE w l F → SepE w m G → (∀ b, F b → ¬ G b) → SepE w (l ++ m) (fun b => F b ∨ G b)
  | [], m, F, G, h, k, _ => by
    have e : (fun b => F b ∨ G b) = G := by funext b; have := h b; simp [this]
    rw [e]; exact k
  | a :: l, m, F, G, ⟨F1, F2, h1, h2, h3, h4⟩, k, d => by
    refine ⟨F1, fun b => F2 b ∨ G b, h1, SepE.app h2 k (fun b hb => d b ((h4 b).2 (.inr hb))), fun b hb => ?_, fun b => ?_⟩
    · rintro (h | h)
      · exact h3 b hb h
      · exact d b ((h4 b).2 (.inl hb)) h
    · constructor
      · rintro (h | h)
        · rcases (h4 b).1 h with h | h
          · exact .inl h
          · exact .inr (.inl h)
        · exact .inr (.inr h)
      · rintro (h | h | h)
        · exact .inl ((h4 b).2 (.inl h))
        · exact .inl ((h4 b).2 (.inr h))
        · exact .inr h
theorem SepE.unapp {w : World} : ∀ {l m : List Asn} {F : Nat → Prop}, SepE w (l ++ m) F → ∃ F1 F2, SepE w l F1 ∧ SepE w m F2 ∧ (∀ b, F1 b → ¬ F2 b) ∧ ∀ b, F b ↔ (F1 b ∨ F2 b)
  | [], _, F, h => ⟨fun _ => False, F, fun _ h => h, h, fun _ h => h.elim, fun _ => by simp⟩
  | a :: l, m, F, ⟨F1, F2, h1, h2, h3, h4⟩ => by
    obtain ⟨G1, G2, g1, g2, g3, g4⟩ := SepE.unapp h2
    refine ⟨fun b => F1 b ∨ G1 b, G2, ⟨F1, G1, h1, g1, fun b hb hg => h3 b hb ((g4 b).2 (.inl hg)), fun _ => Iff.rfl⟩, g2, fun b hb hg => ?_, fun b => ?_⟩
    · rcases hb with h | h
      · exact h3 b h ((g4 b).2 (.inr hg))
      · exact g3 b h hg
    · rw [h4 b, g4 b, or_assoc]
theorem SepE.swap {w : World} {a b : Asn} {l : List Asn} {F : Nat → Prop} (h : SepE w (a :: b :: l) F) : SepE w (b :: a :: l) F := by
  obtain ⟨F1, F2, h1, ⟨G1, G2, g1, g2, g3, g4⟩, h3, h4⟩ := h
  refine ⟨G1, fun x => F1 x ∨ G2 x, g1, ⟨F1, G2, h1, g2, fun x hx hg => h3 x hx ((g4 x).2 (.inr hg)), fun _ => Iff.rfl⟩, fun x hx hg => ?_, fun x => ?_⟩
  · rcases hg with h | h
    · exact h3 x h ((g4 x).2 (.inl hx))
    · exact g3 x hx h
  · rw [h4 x, g4 x]
    constructor
    · rintro (h | h | h)
      · exact .inr (.inl h)
      · exact .inl h
      · exact .inr (.inr h)
    · rintro (h | h | h)
      · exact .inr (.inl h)
      · exact .inl h
      · exact .inr (.inr h)
theorem SepE.perm {w : World} {l m : List Asn} (p : l.Perm m) : ∀ {F : Nat → Prop}, SepE w l F → SepE w m F := by
  induction p with
  | nil => exact fun h => h
  | cons a _ ih => exact fun ⟨F1, F2, h1, h2, h3, h4⟩ => ⟨F1, F2, h1, ih h2, h3, h4⟩
  | swap a b l => exact fun h => SepE.swap h
  | trans _ _ ih1 ih2 => exact fun h => ih2 (ih1 h)

/-- THE WORD: the assertions hold, on parts that share nothing. -/
def Sep (w : World) (l : List Asn) : Prop := ∃ F, SepE w l F

section
variable {w w' : World} {a b c d e f g : Asn} {l m : List Asn}
theorem Sep.perm (h : Sep w l) (p : l.Perm m) : Sep w m := let ⟨F, h⟩ := h; ⟨F, SepE.perm p h⟩
theorem Sep.front {x : Asn} {xs R : List Asn} (h : Sep w (xs ++ x :: R)) : Sep w (x :: (xs ++ R)) := h.perm List.perm_middle
theorem Sep.back {x : Asn} {xs R : List Asn} (h : Sep w (x :: (xs ++ R))) : Sep w (xs ++ x :: R) := h.perm List.perm_middle.symm
theorem Sep.front1 {y x : Asn} {xs R : List Asn} (h : Sep w (y :: (xs ++ x :: R))) : Sep w (y :: x :: (xs ++ R)) := h.perm (.cons _ List.perm_middle)
theorem Sep.back1 {y x : Asn} {xs R : List Asn} (h : Sep w (y :: x :: (xs ++ R))) : Sep w (y :: (xs ++ x :: R)) := h.perm (.cons _ List.perm_middle.symm)
/-- f: the assertion at place k comes to place 0; u: back; t: the assertion at place k comes to place 1, the first stays; b: back. -/
theorem Sep.swap (h : Sep w (a :: b :: l)) : Sep w (b :: a :: l) := h.perm (.swap _ _ _)
theorem Sep.f2 {x0 x1 y : Asn} (h : Sep w (x0 :: x1 :: y :: l)) : Sep w (y :: x0 :: x1 :: l) := Sep.front (xs := [x0, x1]) h
theorem Sep.u2 {x0 x1 y : Asn} (h : Sep w (y :: x0 :: x1 :: l)) : Sep w (x0 :: x1 :: y :: l) := Sep.back (xs := [x0, x1]) h
theorem Sep.t2 {z x0 y : Asn} (h : Sep w (z :: x0 :: y :: l)) : Sep w (z :: y :: x0 :: l) := Sep.front1 (xs := [x0]) h
theorem Sep.b2 {z x0 y : Asn} (h : Sep w (z :: y :: x0 :: l)) : Sep w (z :: x0 :: y :: l) := Sep.back1 (xs := [x0]) h
theorem Sep.f3 {x0 x1 x2 y : Asn} (h : Sep w (x0 :: x1 :: x2 :: y :: l)) : Sep w (y :: x0 :: x1 :: x2 :: l) := Sep.front (xs := [x0, x1, x2]) h
theorem Sep.u3 {x0 x1 x2 y : Asn} (h : Sep w (y :: x0 :: x1 :: x2 :: l)) : Sep w (x0 :: x1 :: x2 :: y :: l) := Sep.back (xs := [x0, x1, x2]) h
theorem Sep.t3 {z x0 x1 y : Asn} (h : Sep w (z :: x0 :: x1 :: y :: l)) : Sep w (z :: y :: x0 :: x1 :: l) := Sep.front1 (xs := [x0, x1]) h
theorem Sep.b3 {z x0 x1 y : Asn} (h : Sep w (z :: y :: x0 :: x1 :: l)) : Sep w (z :: x0 :: x1 :: y :: l) := Sep.back1 (xs := [x0, x1]) h
theorem Sep.f4 {x0 x1 x2 x3 y : Asn} (h : Sep w (x0 :: x1 :: x2 :: x3 :: y :: l)) : Sep w (y :: x0 :: x1 :: x2 :: x3 :: l) := Sep.front (xs := [x0, x1, x2, x3]) h
theorem Sep.u4 {x0 x1 x2 x3 y : Asn} (h : Sep w (y :: x0 :: x1 :: x2 :: x3 :: l)) : Sep w (x0 :: x1 :: x2 :: x3 :: y :: l) := Sep.back (xs := [x0, x1, x2, x3]) h
theorem Sep.t4 {z x0 x1 x2 y : Asn} (h : Sep w (z :: x0 :: x1 :: x2 :: y :: l)) : Sep w (z :: y :: x0 :: x1 :: x2 :: l) := Sep.front1 (xs := [x0, x1, x2]) h
theorem Sep.b4 {z x0 x1 x2 y : Asn} (h : Sep w (z :: y :: x0 :: x1 :: x2 :: l)) : Sep w (z :: x0 :: x1 :: x2 :: y :: l) := Sep.back1 (xs := [x0, x1, x2]) h
theorem Sep.f5 {x0 x1 x2 x3 x4 y : Asn} (h : Sep w (x0 :: x1 :: x2 :: x3 :: x4 :: y :: l)) : Sep w (y :: x0 :: x1 :: x2 :: x3 :: x4 :: l) := Sep.front (xs := [x0, x1, x2, x3, x4]) h
theorem Sep.u5 {x0 x1 x2 x3 x4 y : Asn} (h : Sep w (y :: x0 :: x1 :: x2 :: x3 :: x4 :: l)) : Sep w (x0 :: x1 :: x2 :: x3 :: x4 :: y :: l) := Sep.back (xs := [x0, x1, x2, x3, x4]) h
theorem Sep.t5 {z x0 x1 x2 x3 y : Asn} (h : Sep w (z :: x0 :: x1 :: x2 :: x3 :: y :: l)) : Sep w (z :: y :: x0 :: x1 :: x2 :: x3 :: l) := Sep.front1 (xs := [x0, x1, x2, x3]) h
theorem Sep.b5 {z x0 x1 x2 x3 y : Asn} (h : Sep w (z :: y :: x0 :: x1 :: x2 :: x3 :: l)) : Sep w (z :: x0 :: x1 :: x2 :: x3 :: y :: l) := Sep.back1 (xs := [x0, x1, x2, x3]) h
theorem Sep.f6 {x0 x1 x2 x3 x4 x5 y : Asn} (h : Sep w (x0 :: x1 :: x2 :: x3 :: x4 :: x5 :: y :: l)) : Sep w (y :: x0 :: x1 :: x2 :: x3 :: x4 :: x5 :: l) := Sep.front (xs := [x0, x1, x2, x3, x4, x5]) h
theorem Sep.u6 {x0 x1 x2 x3 x4 x5 y : Asn} (h : Sep w (y :: x0 :: x1 :: x2 :: x3 :: x4 :: x5 :: l)) : Sep w (x0 :: x1 :: x2 :: x3 :: x4 :: x5 :: y :: l) := Sep.back (xs := [x0, x1, x2, x3, x4, x5]) h
theorem Sep.t6 {z x0 x1 x2 x3 x4 y : Asn} (h : Sep w (z :: x0 :: x1 :: x2 :: x3 :: x4 :: y :: l)) : Sep w (z :: y :: x0 :: x1 :: x2 :: x3 :: x4 :: l) := Sep.front1 (xs := [x0, x1, x2, x3, x4]) h
theorem Sep.b6 {z x0 x1 x2 x3 x4 y : Asn} (h : Sep w (z :: y :: x0 :: x1 :: x2 :: x3 :: x4 :: l)) : Sep w (z :: x0 :: x1 :: x2 :: x3 :: x4 :: y :: l) := Sep.back1 (xs := [x0, x1, x2, x3, x4]) h
theorem Sep.f7 {x0 x1 x2 x3 x4 x5 x6 y : Asn} (h : Sep w (x0 :: x1 :: x2 :: x3 :: x4 :: x5 :: x6 :: y :: l)) : Sep w (y :: x0 :: x1 :: x2 :: x3 :: x4 :: x5 :: x6 :: l) := Sep.front (xs := [x0, x1, x2, x3, x4, x5, x6]) h
theorem Sep.u7 {x0 x1 x2 x3 x4 x5 x6 y : Asn} (h : Sep w (y :: x0 :: x1 :: x2 :: x3 :: x4 :: x5 :: x6 :: l)) : Sep w (x0 :: x1 :: x2 :: x3 :: x4 :: x5 :: x6 :: y :: l) := Sep.back (xs := [x0, x1, x2, x3, x4, x5, x6]) h
theorem Sep.t7 {z x0 x1 x2 x3 x4 x5 y : Asn} (h : Sep w (z :: x0 :: x1 :: x2 :: x3 :: x4 :: x5 :: y :: l)) : Sep w (z :: y :: x0 :: x1 :: x2 :: x3 :: x4 :: x5 :: l) := Sep.front1 (xs := [x0, x1, x2, x3, x4, x5]) h
theorem Sep.b7 {z x0 x1 x2 x3 x4 x5 y : Asn} (h : Sep w (z :: y :: x0 :: x1 :: x2 :: x3 :: x4 :: x5 :: l)) : Sep w (z :: x0 :: x1 :: x2 :: x3 :: x4 :: x5 :: y :: l) := Sep.back1 (xs := [x0, x1, x2, x3, x4, x5]) h
theorem Sep.f8 {x0 x1 x2 x3 x4 x5 x6 x7 y : Asn} (h : Sep w (x0 :: x1 :: x2 :: x3 :: x4 :: x5 :: x6 :: x7 :: y :: l)) : Sep w (y :: x0 :: x1 :: x2 :: x3 :: x4 :: x5 :: x6 :: x7 :: l) := Sep.front (xs := [x0, x1, x2, x3, x4, x5, x6, x7]) h
theorem Sep.u8 {x0 x1 x2 x3 x4 x5 x6 x7 y : Asn} (h : Sep w (y :: x0 :: x1 :: x2 :: x3 :: x4 :: x5 :: x6 :: x7 :: l)) : Sep w (x0 :: x1 :: x2 :: x3 :: x4 :: x5 :: x6 :: x7 :: y :: l) := Sep.back (xs := [x0, x1, x2, x3, x4, x5, x6, x7]) h
theorem Sep.t8 {z x0 x1 x2 x3 x4 x5 x6 y : Asn} (h : Sep w (z :: x0 :: x1 :: x2 :: x3 :: x4 :: x5 :: x6 :: y :: l)) : Sep w (z :: y :: x0 :: x1 :: x2 :: x3 :: x4 :: x5 :: x6 :: l) := Sep.front1 (xs := [x0, x1, x2, x3, x4, x5, x6]) h
theorem Sep.b8 {z x0 x1 x2 x3 x4 x5 x6 y : Asn} (h : Sep w (z :: y :: x0 :: x1 :: x2 :: x3 :: x4 :: x5 :: x6 :: l)) : Sep w (z :: x0 :: x1 :: x2 :: x3 :: x4 :: x5 :: x6 :: y :: l) := Sep.back1 (xs := [x0, x1, x2, x3, x4, x5, x6]) h
theorem Sep.f9 {x0 x1 x2 x3 x4 x5 x6 x7 x8 y : Asn} (h : Sep w (x0 :: x1 :: x2 :: x3 :: x4 :: x5 :: x6 :: x7 :: x8 :: y :: l)) : Sep w (y :: x0 :: x1 :: x2 :: x3 :: x4 :: x5 :: x6 :: x7 :: x8 :: l) := Sep.front (xs := [x0, x1, x2, x3, x4, x5, x6, x7, x8]) h
theorem Sep.u9 {x0 x1 x2 x3 x4 x5 x6 x7 x8 y : Asn} (h : Sep w (y :: x0 :: x1 :: x2 :: x3 :: x4 :: x5 :: x6 :: x7 :: x8 :: l)) : Sep w (x0 :: x1 :: x2 :: x3 :: x4 :: x5 :: x6 :: x7 :: x8 :: y :: l) := Sep.back (xs := [x0, x1, x2, x3, x4, x5, x6, x7, x8]) h
theorem Sep.t9 {z x0 x1 x2 x3 x4 x5 x6 x7 y : Asn} (h : Sep w (z :: x0 :: x1 :: x2 :: x3 :: x4 :: x5 :: x6 :: x7 :: y :: l)) : Sep w (z :: y :: x0 :: x1 :: x2 :: x3 :: x4 :: x5 :: x6 :: x7 :: l) := Sep.front1 (xs := [x0, x1, x2, x3, x4, x5, x6, x7]) h
theorem Sep.b9 {z x0 x1 x2 x3 x4 x5 x6 x7 y : Asn} (h : Sep w (z :: y :: x0 :: x1 :: x2 :: x3 :: x4 :: x5 :: x6 :: x7 :: l)) : Sep w (z :: x0 :: x1 :: x2 :: x3 :: x4 :: x5 :: x6 :: x7 :: y :: l) := Sep.back1 (xs := [x0, x1, x2, x3, x4, x5, x6, x7]) h
theorem Sep.f10 {x0 x1 x2 x3 x4 x5 x6 x7 x8 x9 y : Asn} (h : Sep w (x0 :: x1 :: x2 :: x3 :: x4 :: x5 :: x6 :: x7 :: x8 :: x9 :: y :: l)) : Sep w (y :: x0 :: x1 :: x2 :: x3 :: x4 :: x5 :: x6 :: x7 :: x8 :: x9 :: l) := Sep.front (xs := [x0, x1, x2, x3, x4, x5, x6, x7, x8, x9]) h
theorem Sep.u10 {x0 x1 x2 x3 x4 x5 x6 x7 x8 x9 y : Asn} (h : Sep w (y :: x0 :: x1 :: x2 :: x3 :: x4 :: x5 :: x6 :: x7 :: x8 :: x9 :: l)) : Sep w (x0 :: x1 :: x2 :: x3 :: x4 :: x5 :: x6 :: x7 :: x8 :: x9 :: y :: l) := Sep.back (xs := [x0, x1, x2, x3, x4, x5, x6, x7, x8, x9]) h
theorem Sep.t10 {z x0 x1 x2 x3 x4 x5 x6 x7 x8 y : Asn} (h : Sep w (z :: x0 :: x1 :: x2 :: x3 :: x4 :: x5 :: x6 :: x7 :: x8 :: y :: l)) : Sep w (z :: y :: x0 :: x1 :: x2 :: x3 :: x4 :: x5 :: x6 :: x7 :: x8 :: l) := Sep.front1 (xs := [x0, x1, x2, x3, x4, x5, x6, x7, x8]) h
theorem Sep.b10 {z x0 x1 x2 x3 x4 x5 x6 x7 x8 y : Asn} (h : Sep w (z :: y :: x0 :: x1 :: x2 :: x3 :: x4 :: x5 :: x6 :: x7 :: x8 :: l)) : Sep w (z :: x0 :: x1 :: x2 :: x3 :: x4 :: x5 :: x6 :: x7 :: x8 :: y :: l) := Sep.back1 (xs := [x0, x1, x2, x3, x4, x5, x6, x7, x8]) h
theorem Sep.f11 {x0 x1 x2 x3 x4 x5 x6 x7 x8 x9 x10 y : Asn} (h : Sep w (x0 :: x1 :: x2 :: x3 :: x4 :: x5 :: x6 :: x7 :: x8 :: x9 :: x10 :: y :: l)) : Sep w (y :: x0 :: x1 :: x2 :: x3 :: x4 :: x5 :: x6 :: x7 :: x8 :: x9 :: x10 :: l) := Sep.front (xs := [x0, x1, x2, x3, x4, x5, x6, x7, x8, x9, x10]) h
theorem Sep.u11 {x0 x1 x2 x3 x4 x5 x6 x7 x8 x9 x10 y : Asn} (h : Sep w (y :: x0 :: x1 :: x2 :: x3 :: x4 :: x5 :: x6 :: x7 :: x8 :: x9 :: x10 :: l)) : Sep w (x0 :: x1 :: x2 :: x3 :: x4 :: x5 :: x6 :: x7 :: x8 :: x9 :: x10 :: y :: l) := Sep.back (xs := [x0, x1, x2, x3, x4, x5, x6, x7, x8, x9, x10]) h
theorem Sep.t11 {z x0 x1 x2 x3 x4 x5 x6 x7 x8 x9 y : Asn} (h : Sep w (z :: x0 :: x1 :: x2 :: x3 :: x4 :: x5 :: x6 :: x7 :: x8 :: x9 :: y :: l)) : Sep w (z :: y :: x0 :: x1 :: x2 :: x3 :: x4 :: x5 :: x6 :: x7 :: x8 :: x9 :: l) := Sep.front1 (xs := [x0, x1, x2, x3, x4, x5, x6, x7, x8, x9]) h
theorem Sep.b11 {z x0 x1 x2 x3 x4 x5 x6 x7 x8 x9 y : Asn} (h : Sep w (z :: y :: x0 :: x1 :: x2 :: x3 :: x4 :: x5 :: x6 :: x7 :: x8 :: x9 :: l)) : Sep w (z :: x0 :: x1 :: x2 :: x3 :: x4 :: x5 :: x6 :: x7 :: x8 :: x9 :: y :: l) := Sep.back1 (xs := [x0, x1, x2, x3, x4, x5, x6, x7, x8, x9]) h
theorem Sep.f12 {x0 x1 x2 x3 x4 x5 x6 x7 x8 x9 x10 x11 y : Asn} (h : Sep w (x0 :: x1 :: x2 :: x3 :: x4 :: x5 :: x6 :: x7 :: x8 :: x9 :: x10 :: x11 :: y :: l)) : Sep w (y :: x0 :: x1 :: x2 :: x3 :: x4 :: x5 :: x6 :: x7 :: x8 :: x9 :: x10 :: x11 :: l) := Sep.front (xs := [x0, x1, x2, x3, x4, x5, x6, x7, x8, x9, x10, x11]) h
theorem Sep.u12 {x0 x1 x2 x3 x4 x5 x6 x7 x8 x9 x10 x11 y : Asn} (h : Sep w (y :: x0 :: x1 :: x2 :: x3 :: x4 :: x5 :: x6 :: x7 :: x8 :: x9 :: x10 :: x11 :: l)) : Sep w (x0 :: x1 :: x2 :: x3 :: x4 :: x5 :: x6 :: x7 :: x8 :: x9 :: x10 :: x11 :: y :: l) := Sep.back (xs := [x0, x1, x2, x3, x4, x5, x6, x7, x8, x9, x10, x11]) h
theorem Sep.t12 {z x0 x1 x2 x3 x4 x5 x6 x7 x8 x9 x10 y : Asn} (h : Sep w (z :: x0 :: x1 :: x2 :: x3 :: x4 :: x5 :: x6 :: x7 :: x8 :: x9 :: x10 :: y :: l)) : Sep w (z :: y :: x0 :: x1 :: x2 :: x3 :: x4 :: x5 :: x6 :: x7 :: x8 :: x9 :: x10 :: l) := Sep.front1 (xs := [x0, x1, x2, x3, x4, x5, x6, x7, x8, x9, x10]) h
theorem Sep.b12 {z x0 x1 x2 x3 x4 x5 x6 x7 x8 x9 x10 y : Asn} (h : Sep w (z :: y :: x0 :: x1 :: x2 :: x3 :: x4 :: x5 :: x6 :: x7 :: x8 :: x9 :: x10 :: l)) : Sep w (z :: x0 :: x1 :: x2 :: x3 :: x4 :: x5 :: x6 :: x7 :: x8 :: x9 :: x10 :: y :: l) := Sep.back1 (xs := [x0, x1, x2, x3, x4, x5, x6, x7, x8, x9, x10]) h
theorem range_get (xs : List Asn) : (List.range xs.length).filterMap (fun i => xs[i]?) = xs := by
  induction xs with
  | nil => rfl
  | cons x xs ih =>
    rw [List.length_cons, List.range_succ_eq_map, List.filterMap_cons]
    simp only [List.getElem?_cons_zero, List.filterMap_map]
    congr 1
/-- The first assertions, in another order: place j gets what stood at is[j]. -/
theorem Sep.re {xs R : List Asn} (h : Sep w (xs ++ R)) (is : List Nat) (hp : is.Perm (List.range is.length)) (hn : is.length = xs.length) : Sep w (is.filterMap (fun i => xs[i]?) ++ R) := by
  rw [hn] at hp
  exact h.perm ((range_get xs ▸ (hp.symm.filterMap (fun i => xs[i]?))).append_right R)
theorem Sep.tail (h : Sep w (a :: l)) : Sep w l := let ⟨_, _, F2, _, h2, _⟩ := h; ⟨F2, h2⟩
theorem Sep.drop1 (h : Sep w (a :: b :: l)) : Sep w (a :: l) := h.swap.tail

/-- The world has changed on new blocks alone. -/
theorem Sep.keep (h : Sep w l) (k : Keep (fun b => b < w.heap.size) w w') : Sep w' l := let ⟨F, h⟩ := h; ⟨F, h.keep (k.mono fun b hb => h.lt b hb)⟩
theorem Sep.drew (h : Sep w l) : Sep w.drew l := h.keep ((Keep.refl _ _).drew)
theorem Sep.drewN (h : Sep w l) (n : Nat) : Sep (w.drewN n) l := h.keep ((Keep.refl _ _).drewN n)
theorem Sep.alike (h : Sep w l) (k : w'.Alike w) (ht : w'.tape = w.tape) : Sep w' l := h.keep (.of_alike k ht)
/-- .. and there something more is said. -/
theorem Sep.grow (h : Sep w l) (k : Keep (fun b => b < w.heap.size) w w') (ha : ∃ F, a.holds w' F ∧ ∀ b, F b → w.heap.size ≤ b) : Sep w' (a :: l) := by
  obtain ⟨F, h⟩ := h
  obtain ⟨G, hg, hlt⟩ := ha
  exact ⟨_, G, F, hg, h.keep (k.mono fun b hb => h.lt b hb), fun b hb hf => by have := h.lt b hf; have := hlt b hb; omega, fun _ => Iff.rfl⟩
/-- The first assertion's part, and new blocks, have changed. -/
theorem Sep.step (h : Sep w (a :: l)) (hs : ∀ F, a.holds w F → Keep (fun b => b < w.heap.size ∧ ¬ F b) w w' ∧ ∃ G, SepE w' m G ∧ ∀ b, G b → F b ∨ w.heap.size ≤ b) : Sep w' (m ++ l) := by
  obtain ⟨F, F1, F2, h1, h2, h3, h4⟩ := h
  obtain ⟨k, G, hg, hsub⟩ := hs F1 h1
  refine ⟨_, SepE.app hg (h2.keep (k.mono fun b hb => ⟨h2.lt b hb, fun hf => h3 b hf hb⟩)) fun b hb hf => ?_⟩
  rcases hsub b hb with h | h
  · exact h3 b h hf
  · have := h2.lt b hf; omega
theorem SepE.one {F : Nat → Prop} (h : a.holds w F) : SepE w [a] F := ⟨F, fun _ => False, h, fun _ h => h, fun _ _ h => h, fun _ => by simp⟩
theorem Sep.step1 (h : Sep w (a :: l)) (hs : ∀ F, a.holds w F → Keep (fun b => b < w.heap.size ∧ ¬ F b) w w' ∧ ∃ G, b.holds w' G ∧ ∀ x, G x → F x ∨ w.heap.size ≤ x) : Sep w' (b :: l) :=
  h.step (m := [b]) fun F hF => by
    obtain ⟨k, G, hg, hsub⟩ := hs F hF
    exact ⟨k, G, SepE.one hg, hsub⟩
theorem Sep.weak (h : Sep w (a :: l)) (hs : ∀ F, a.holds w F → b.holds w F) : Sep w (b :: l) := h.step1 fun F hF => ⟨.refl _ _, F, hs F hF, fun _ h => .inl h⟩
theorem Sep.head (h : Sep w (a :: l)) : ∃ F, a.holds w F := let ⟨_, F1, _, h1, _⟩ := h; ⟨F1, h1⟩

/-- A list as one assertion. -/
def Asn.all (l : List Asn) : Asn := ⟨fun w F => SepE w l F, SepE.lt, SepE.keep⟩
theorem Sep.of_all (h : Sep w (Asn.all m :: l)) : Sep w (m ++ l) := h.step fun F hF => ⟨.refl _ _, F, hF, fun _ h => .inl h⟩
theorem Sep.to_all (h : Sep w (m ++ l)) : Sep w (Asn.all m :: l) := by
  obtain ⟨F, h⟩ := h
  obtain ⟨F1, F2, h1, h2, h3, h4⟩ := SepE.unapp h
  exact ⟨F, F1, F2, h1, h2, h3, h4⟩
/-- There is something. -/
def Asn.ex {α : Type} (f : α → Asn) : Asn := ⟨fun w F => ∃ x, (f x).holds w F, fun ⟨x, h⟩ => (f x).lt h, fun ⟨x, h⟩ k => ⟨x, (f x).keep h k⟩⟩
theorem Sep.of_ex {α : Type} {f : α → Asn} (h : Sep w (Asn.ex f :: l)) : ∃ x, Sep w (f x :: l) := let ⟨F, F1, F2, ⟨x, h1⟩, r⟩ := h; ⟨x, F, F1, F2, h1, r⟩
theorem Sep.to_ex {α : Type} {f : α → Asn} (x : α) (h : Sep w (f x :: l)) : Sep w (Asn.ex f :: l) := let ⟨F, F1, F2, h1, r⟩ := h; ⟨F, F1, F2, ⟨x, h1⟩, r⟩
/-- A plain fact. -/
def Asn.fact (p : Prop) : Asn := ⟨fun _ F => p ∧ ∀ b, ¬ F b, fun h b hb => absurd hb (h.2 b), fun h _ => h⟩
theorem Sep.of_fact {p : Prop} (h : Sep w (Asn.fact p :: l)) : p ∧ Sep w l := ⟨h.head.elim fun _ h => h.1, h.tail⟩
theorem Sep.to_fact {p : Prop} (hp : p) (h : Sep w l) : Sep w (Asn.fact p :: l) := h.grow (.refl _ _) ⟨fun _ => False, ⟨hp, fun _ h => h⟩, fun _ h => h.elim⟩
end

/-! ### Blocks -/
/-- Block g is just these cells, of which none is frozen. -/
def Blk (g : Nat) (t : TypeId) (cs : Array Value) : Asn :=
  ⟨fun w F => w.heap[g]? = some (.cells cs t (0, 0)) ∧ ∀ b, F b ↔ b = g, fun h b hb => by rw [(h.2 b).1 hb]; exact lt_of_block h.1, fun h k => ⟨(k.block g ((h.2 g).2 rfl)).trans h.1, h.2⟩⟩
section
variable {w w' : World} {a b c d e f : Asn} {l m : List Asn} {g g' : Nat} {t t' : TypeId} {cs cs' : Array Value}
theorem Sep.blk (h : Sep w (Blk g t cs :: l)) : w.heap[g]? = some (.cells cs t (0, 0)) := let ⟨_, h1, _⟩ := h.head; h1
theorem Sep.blk_lt (h : Sep w (Blk g t cs :: l)) : g < w.heap.size := lt_of_block h.blk
/-- What the walk wants of a block: each cell; that none is frozen. -/
theorem Sep.cells (h : Sep w (Blk g t cs :: l)) : (∀ i, w.cell? ⟨g, i, none⟩ = cs[i]?) ∧ ∀ i, w.frozen? ⟨g, i, none⟩ = false :=
  ⟨fun i => cell_of_row w g i cs t (0, 0) h.blk, fun i => frozen_of_row w g i cs t h.blk⟩
theorem Sep.blk_ne (h : Sep w (Blk g t cs :: Blk g' t' cs' :: l)) : g ≠ g' := by
  rintro rfl
  obtain ⟨_, F1, F2, h1, ⟨G1, G2, g1, _, _, g4⟩, h3, _⟩ := h
  exact h3 g ((h1.2 g).2 rfl) ((g4 g).2 (.inl ((g1.2 g).2 rfl)))
theorem Sep.store (h : Sep w (Blk g t cs :: l)) (i : Nat) (v : Value) : Sep (w.setCell ⟨g, i, none⟩ v) (Blk g t (cs.setIfInBounds i v) :: l) :=
  h.step1 fun F hF => ⟨(Keep.setCell _ _ _).mono fun b hb he => hb.2 ((hF.2 b).2 he), F, ⟨heap_setCell_same w g i cs t v hF.1, hF.2⟩, fun _ h => .inl h⟩
theorem Sep.alloc (h : Sep w l) (t : TypeId) (cs : Array Value) : Sep (w.alloc (.cells cs t)) (Blk w.heap.size t cs :: l) :=
  h.grow (.alloc _ _) ⟨fun b => b = w.heap.size, ⟨heap_alloc_new w _, fun _ => Iff.rfl⟩, fun b hb => by omega⟩
theorem Sep.alloc_ (h : Sep w l) (o : Obj) : Sep (w.alloc o) l := h.keep (.alloc _ _)
end

/-! ### Slices that nobody else holds -/
/-- v is a slice without capacity, or lies (with its spare room) in a block that nobody else holds; its n elements' cells are xs. -/
def OwnP (w : World) (e : TypeId) (size : Nat) (v : Value) (n : Nat) (xs : List Value) (F : Nat → Prop) : Prop :=
  xs.length = n * size ∧ ((∃ A, v = .slice A 0 0 ∧ n = 0 ∧ ∀ b, ¬ F b) ∨
    ∃ g off cap cur fr, v = .slice (some ⟨g, off, none⟩) n cap ∧ w.heap[g]? = some (.cells cur e fr) ∧ n ≤ cap ∧ cap ≤ maxLen ∧ off + cap * size ≤ cur.size ∧
      (∀ i, off ≤ i → i < off + cap * size → ¬ (fr.1 ≤ i ∧ i < fr.2)) ∧ (∀ j u, xs[j]? = some u → cur[off + j]? = some u) ∧ ∀ b, F b ↔ b = g)
def Own (e : TypeId) (size : Nat) (v : Value) (n : Nat) (xs : List Value) : Asn :=
  ⟨fun w F => OwnP w e size v n xs F,
   fun {w F} h b hb => by
    rcases h.2 with ⟨_, _, _, h0⟩ | ⟨g, off, cap, cur, fr, _, hg, _, _, _, _, _, hF⟩
    · exact absurd hb (h0 b)
    · rw [(hF b).1 hb]; exact lt_of_block hg,
   fun {w w' F} h k => by
    refine ⟨h.1, ?_⟩
    rcases h.2 with hn | ⟨g, off, cap, cur, fr, rfl, hg, h1, h2, h3, h4, h5, hF⟩
    · exact .inl hn
    · exact .inr ⟨g, off, cap, cur, fr, rfl, (k.block g ((hF g).2 rfl)).trans hg, h1, h2, h3, h4, h5, hF⟩⟩

/-- A slice that can be read: its cells are xs. -/
def Rd (w : World) (size : Nat) (v : Value) (n c : Nat) (xs : List Value) : Prop :=
  ∃ A, v = .slice A n c ∧ n ≤ c ∧ c ≤ maxLen ∧ xs.length = n * size ∧ (0 < n → ∃ ad, A = some ad ∧ ∀ j u, xs[j]? = some u → w.cell? (ad.add j) = some u)

theorem add_lit' (g off j : Nat) : (⟨g, off, none⟩ : Addr).add j = ⟨g, off + j, none⟩ := by unfold Addr.add; split <;> simp_all

section
variable {w w' : World} {a b c d f : Asn} {l m : List Asn} {e : TypeId} {size n k : Nat} {v : Value} {xs ys : List Value}
theorem Sep.own (h : Sep w (Own e size v n xs :: l)) : ∃ F, OwnP w e size v n xs F := h.head
theorem Sep.own_len (h : Sep w (Own e size v n xs :: l)) : xs.length = n * size := let ⟨_, h⟩ := h.own; h.1
/-- What an owned value looks like. -/
theorem Sep.own_form (h : Sep w (Own e size v n xs :: l)) : ∃ A c, v = .slice A n c ∧ n ≤ c ∧ c ≤ maxLen := by
  obtain ⟨F, _, ⟨A, rfl, rfl, _⟩ | ⟨g, off, cap, cur, fr, rfl, _, h1, h2, _⟩⟩ := h.own
  · exact ⟨_, _, rfl, Nat.le_refl _, Nat.zero_le _⟩
  · exact ⟨_, _, rfl, h1, h2⟩
theorem Sep.own_le {A : Option Addr} {c : Nat} (h : Sep w (Own e size (.slice A n c) n xs :: l)) : n ≤ c ∧ c ≤ maxLen := by
  obtain ⟨A', c', e, h1, h2⟩ := h.own_form
  injection e with _ _ e3
  subst e3
  exact ⟨h1, h2⟩
theorem OwnP.rd {F : Nat → Prop} {c : Nat} {A : Option Addr} (h : OwnP w e size (.slice A n c) n xs F) : Rd w size (.slice A n c) n c xs := by
  obtain ⟨hl, ⟨A', hv, rfl, _⟩ | ⟨g, off, cap, cur, fr, hv, hg, h1, h2, h3, h4, h5, _⟩⟩ := h
  · injection hv with _ _ e3
    subst e3
    exact ⟨A, rfl, Nat.le_refl _, Nat.zero_le _, hl, fun h => absurd h (Nat.lt_irrefl 0)⟩
  · injection hv with e1 _ e3
    subst e1; subst e3
    exact ⟨_, rfl, h1, h2, hl, fun _ => ⟨_, rfl, fun j u hu => by rw [add_lit', cell_of_row w g _ cur e fr hg]; exact h5 j u hu⟩⟩
theorem Sep.rd {c : Nat} {A : Option Addr} (h : Sep w (Own e size (.slice A n c) n xs :: l)) : Rd w size (.slice A n c) n c xs := let ⟨_, h⟩ := h.own; h.rd
theorem Sep.own_zero (h : Sep w l) (e : TypeId) (size : Nat) (A : Option Addr) : Sep w (Own e size (.slice A 0 0) 0 [] :: l) :=
  h.grow (.refl _ _) ⟨fun _ => False, ⟨by simp, .inl ⟨A, rfl, rfl, fun _ h => h⟩⟩, fun _ h => h.elim⟩
theorem Sep.own_nil (h : Sep w l) (e : TypeId) (size : Nat) : Sep w (Own e size (.slice none 0 0) 0 [] :: l) := h.own_zero e size none
/-- A block that is a whole row, as an owned slice. -/
theorem Sep.blk_own {g : Nat} {cs : Array Value} (h : Sep w (Blk g e cs :: l)) (size n c : Nat) (hs : cs.size = c * size) (hn : n ≤ c) (hm : c ≤ maxLen) :
    Sep w (Own e size (.slice (some ⟨g, 0, none⟩) n c) n (cs.toList.take (n * size)) :: l) :=
  h.weak fun F hF => ⟨by rw [List.length_take, Array.length_toList, hs, Nat.min_eq_left (Nat.mul_le_mul_right _ hn)], .inr ⟨g, 0, c, cs, (0, 0), rfl, hF.1, hn, hm, by rw [hs]; omega, fun i _ _ h => absurd h.2 (Nat.not_lt_zero i), fun j u hu => (by
    rw [List.getElem?_take] at hu
    split at hu
    · simpa using hu
    · cases hu), hF.2⟩⟩
theorem Sep.own_new (h : Sep w l) (e : TypeId) (size n : Nat) (cs : Array Value) (hs : cs.size = n * size) (hm : n ≤ maxLen) :
    Sep (w.alloc (.cells cs e)) (Own e size (.slice (some ⟨w.heap.size, 0, none⟩) n n) n cs.toList :: l) := by
  have := (h.alloc e cs).blk_own size n n hs (Nat.le_refl _) hm
  rwa [List.take_of_length_le (by rw [Array.length_toList, hs]; exact Nat.le_refl _)] at this
/-- Less of it. -/
theorem Sep.own_take {A : Option Addr} {c : Nat} (h : Sep w (Own e size (.slice A n c) n xs :: l)) (hk : k ≤ n) : Sep w (Own e size (.slice A k c) k (xs.take (k * size)) :: l) :=
  h.weak fun F hF => by
    obtain ⟨hl, ⟨A', hv, rfl, h0⟩ | ⟨g, off, cap, cur, fr, hv, hg, h1, h2, h3, h4, h5, hF⟩⟩ := hF
    · injection hv with _ _ e3
      subst e3
      obtain rfl : k = 0 := by omega
      exact ⟨by simp, .inl ⟨A, rfl, rfl, h0⟩⟩
    · injection hv with e1 _ e3
      subst e1; subst e3
      refine ⟨by rw [List.length_take, hl, Nat.min_eq_left (Nat.mul_le_mul_right _ hk)], .inr ⟨g, off, _, cur, fr, rfl, hg, by omega, h2, h3, h4, fun j u hu => h5 j u ?_, hF⟩⟩
      rw [List.getElem?_take] at hu
      split at hu
      · exact hu
      · cases hu
theorem Sep.own_drop {A : Option Addr} {c : Nat} (h : Sep w (Own e size (.slice A n c) n xs :: l)) (hk : k ≤ n) :
    Sep w (Own e size (.slice (if c = k then A else A.map (·.add (k * size))) (n - k) (c - k)) (n - k) (xs.drop (k * size)) :: l) :=
  h.step1 fun F hF => by
    refine ⟨.refl _ _, ?_⟩
    obtain ⟨hl, ⟨A', hv, rfl, h0⟩ | ⟨g, off, cap, cur, fr, hv, hg, h1, h2, h3, h4, h5, hF⟩⟩ := hF
    · injection hv with _ _ e3
      subst e3
      obtain rfl : k = 0 := by omega
      refine ⟨F, ⟨by simpa using hl, .inl ⟨A, by simp, rfl, h0⟩⟩, fun _ h => .inl h⟩
    · injection hv with e1 _ e3
      subst e1; subst e3
      by_cases hc : c = k
      · subst hc
        obtain rfl : n = c := by omega
        refine ⟨fun _ => False, ⟨by simp [hl], .inl ⟨some ⟨g, off, none⟩, by simp, by omega, fun _ h => h⟩⟩, fun _ h => h.elim⟩
      · rw [if_neg hc]
        have hm : k * size + (c - k) * size = c * size := by rw [← Nat.add_mul]; congr 1; omega
        refine ⟨F, ⟨by rw [List.length_drop, hl, Nat.sub_mul], .inr ⟨g, off + k * size, c - k, cur, fr, by simp [add_lit'], hg, by omega, by omega, by omega, fun i hi hi' => h4 i (by omega) (by omega), fun j u hu => ?_, hF⟩⟩, fun _ h => .inl h⟩
        rw [List.getElem?_drop] at hu
        rw [Nat.add_assoc]
        exact h5 _ u hu
/-- A store into an element's cell. -/
theorem Sep.own_store {g off c : Nat} (h : Sep w (Own e size (.slice (some ⟨g, off, none⟩) n c) n xs :: l)) {i : Nat} (hi : i < xs.length) (u : Value) :
    Sep (w.setCell ⟨g, off + i, none⟩ u) (Own e size (.slice (some ⟨g, off, none⟩) n c) n (xs.set i u) :: l) ∧ (w.cell? ⟨g, off + i, none⟩).isSome = true ∧ w.frozen? ⟨g, off + i, none⟩ = false := by
  obtain ⟨F, hF⟩ := h.own
  obtain ⟨hl, ⟨A', hv, rfl, h0⟩ | ⟨g', off', cap, cur, fr, hv, hg, h1, h2, h3, h4, h5, hF⟩⟩ := hF
  · rw [Nat.zero_mul] at hl; omega
  · injection hv with e1 _ e3
    injection e1 with e1
    injection e1 with e1 e2
    subst e1; subst e2; subst e3
    have hnc : n * size ≤ c * size := Nat.mul_le_mul_right _ h1
    refine ⟨h.step1 fun G hG => ⟨?_, fun b => b = g, ⟨by simpa using hl, .inr ⟨g, off, c, cur.setIfInBounds (off + i) u, fr, rfl, ?_, h1, h2, by simpa using h3, h4, fun j x hx => ?_, fun _ => Iff.rfl⟩⟩, fun b hb => .inl ?_⟩, ?_, ?_⟩
    · refine (Keep.setCell _ _ _).mono fun b hb he => hb.2 ?_
      obtain ⟨hl', ⟨A', hv', rfl, h0⟩ | ⟨g', off', cap, cur', fr', hv', _, _, _, _, _, _, hF'⟩⟩ := hG
      · rw [Nat.zero_mul] at hl'; omega
      · injection hv' with e1 _ _
        injection e1 with e1
        injection e1 with e1 _
        rw [hF' b, ← e1]; exact he
    · simp [World.setCell, Array.getElem?_modify, hg]
    · rw [List.getElem?_set] at hx
      rw [Array.getElem?_setIfInBounds]
      by_cases hij : i = j
      · subst hij
        rw [if_pos rfl] at hx ⊢
        rw [if_pos hi] at hx
        rw [if_pos (by omega)]; exact hx
      · rw [if_neg hij] at hx
        rw [if_neg (by omega)]
        exact h5 j x hx
    · obtain ⟨hl', ⟨A', hv', rfl, h0⟩ | ⟨g', off', cap, cur', fr', hv', _, _, _, _, _, _, hF'⟩⟩ := hG
      · rw [Nat.zero_mul] at hl'; omega
      · injection hv' with e1 _ _
        injection e1 with e1
        injection e1 with e1 _
        rw [hF' b, hb, e1]
    · rw [cell_of_row w g _ cur e fr hg]; simp; omega
    · have := h4 (off + i) (by omega) (by omega)
      simp only [World.frozen?, hg]
      simp
      omega
/-- What a law of the kit leaves that speaks of 'ownsRow'. -/
theorem OwnP.of_row (h : w.ownsRow k e size v n xs) : ∃ F, OwnP w e size v n xs F ∧ ∀ b, F b → v.ownBlock = some b := by
  obtain ⟨hl, ⟨rfl, rfl⟩ | ⟨g, cap, cur, rfl, _, hg, h1, h2, h3, h4⟩⟩ := h
  · exact ⟨fun _ => False, ⟨hl, .inl ⟨_, rfl, rfl, fun _ h => h⟩⟩, fun _ h => h.elim⟩
  · refine ⟨fun b => b = g, ⟨hl, .inr ⟨g, 0, cap, cur, (0, 0), rfl, hg, h1, h2, by omega, fun i _ _ h => absurd h.2 (Nat.not_lt_zero i), fun j u hu => ?_, fun _ => Iff.rfl⟩⟩, fun b hb => by simp [Value.ownBlock, hb]⟩
    rw [← h4, List.getElem?_take] at hu
    split at hu
    · simpa using hu
    · cases hu
theorem Sep.made (h : Sep w l) (ho : w'.ownsRow k e size v n xs) (hg : w.grownBy w' none) (hk : w.heap.size ≤ k) : Sep w' (Own e size v n xs :: l) := by
  obtain ⟨F, hF, hb⟩ := OwnP.of_row ho
  exact h.grow ((Keep.grown hg).mono fun b hb => ⟨hb, by simp⟩) ⟨F, hF, fun b hFb => Nat.le_trans hk (ho.lt b (hb b hFb)).1⟩
end

/-! ### Readable slices -/
section
variable {w w' : World} {size n c k : Nat} {A : Option Addr} {v : Value} {xs : List Value}
theorem Rd.nil_ (w : World) (size : Nat) : Rd w size (.slice none 0 0) 0 0 [] := ⟨_, rfl, Nat.le_refl _, Nat.zero_le _, by simp, fun h => absurd h (Nat.lt_irrefl 0)⟩
theorem Rd.len (h : Rd w size v n c xs) : xs.length = n * size := let ⟨_, _, _, _, h, _⟩ := h; h
theorem Rd.le (h : Rd w size v n c xs) : n ≤ c := let ⟨_, _, h, _⟩ := h; h
theorem Rd.max (h : Rd w size v n c xs) : c ≤ maxLen := let ⟨_, _, _, h, _⟩ := h; h
theorem Rd.keep (h : Rd w size v n c xs) (hk : ∀ p : Addr, ∀ u, w.cell? p = some u → (∃ B, v = .slice (some B) n c ∧ B.block = p.block) → w'.cell? p = some u) : Rd w' size v n c xs := by
  obtain ⟨A, rfl, h1, h2, h3, h4⟩ := h
  refine ⟨A, rfl, h1, h2, h3, fun hn => ?_⟩
  obtain ⟨ad, rfl, hc⟩ := h4 hn
  refine ⟨ad, rfl, fun j u hu => hk _ _ (hc j u hu) ⟨ad, rfl, ?_⟩⟩
  unfold Addr.add; split <;> rfl
theorem Rd.take (h : Rd w size (.slice A n c) n c xs) (hk : k ≤ n) : Rd w size (.slice A k c) k c (xs.take (k * size)) := by
  obtain ⟨A', e, h1, h2, h3, h4⟩ := h
  injection e with e1 _ _
  subst e1
  refine ⟨_, rfl, by omega, h2, by rw [List.length_take, h3, Nat.min_eq_left (Nat.mul_le_mul_right _ hk)], fun hn => ?_⟩
  obtain ⟨ad, rfl, hc⟩ := h4 (by omega)
  refine ⟨ad, rfl, fun j u hu => hc j u ?_⟩
  rw [List.getElem?_take] at hu
  split at hu
  · exact hu
  · cases hu
theorem add_of_add' (a : Addr) (i j : Nat) : (a.add i).add j = a.add (i + j) := by
  unfold Addr.add
  by_cases hi : i = 0 <;> by_cases hj : j = 0 <;> simp [hi, hj, Nat.add_assoc]
theorem Rd.drop (h : Rd w size (.slice A n c) n c xs) (hk : k ≤ n) : Rd w size (.slice (if c = k then A else A.map (·.add (k * size))) (n - k) (c - k)) (n - k) (c - k) (xs.drop (k * size)) := by
  obtain ⟨A', e, h1, h2, h3, h4⟩ := h
  injection e with e1 _ _
  subst e1
  refine ⟨_, rfl, by omega, by omega, by rw [List.length_drop, h3, Nat.sub_mul], fun hn => ?_⟩
  obtain ⟨ad, rfl, hc⟩ := h4 (by omega)
  rw [if_neg (by omega)]
  refine ⟨_, rfl, fun j u hu => ?_⟩
  rw [add_of_add']
  exact hc _ u (by rw [← hu, List.getElem?_drop])
end
end Go.Proofs.YtgegpjkihbhndaaDoor
