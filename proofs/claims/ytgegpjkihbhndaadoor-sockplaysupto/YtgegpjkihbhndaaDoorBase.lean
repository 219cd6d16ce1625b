/- What is proved: the memory that lies below a call, with the errors, as an assertion. Conditions: none. -/
import Derived.Test.YtgegpjkihbhndaaDoorMem2
import Derived.Test.YtgegpjkihbhndaaDoorProg
import Derived.WalkSpells
import Derived.LaidEqlPtr
import Derived.Deep.QuietTactic
import Derived.BigQuiet
namespace Go.Proofs.YtgegpjkihbhndaaDoor
open Go.RowKit
set_option linter.unusedVariables false

/-- The world in which a law's call began; where the errors' values lie, by the errors' numbers; the errors that are known. -/
structure BI where
  w0 : World
  E : Nat → Addr
  errs : List Nat

/-- The error with a number, as a value: 0 is nil. -/
def errV (B : BI) : Nat → Value
  | 0 => .nilIface
  | k + 1 => .iface 178 (.pointer (some (B.E (k + 1))))

/-- The variable that holds the error with a number. -/
def gno : Nat → Nat
  | 1 => 0
  | 2 => 7
  | 3 => 3
  | 4 => 8
  | 5 => 5
  | 6 => 2
  | 7 => 9
  | 8 => 4
  | 9 => 10
  | 10 => 11
  | 11 => 12
  | 12 => 1
  | 13 => 13
  | 14 => 14
  | 15 => 15
  | 16 => 16
  | 17 => 6
  | _ => 17

/-- What is known of them. -/
structure Globs (B : BI) : Prop where
  var : ∀ k ∈ B.errs, B.w0.cell? ⟨gno k, 0, none⟩ = some (errV B k)
  blk : ∀ k ∈ B.errs, ∃ cs t, B.w0.heap[(B.E k).block]? = some (.cells cs t (0, 0))
  ne : ∀ j ∈ B.errs, ∀ k ∈ B.errs, j ≠ k → B.E j ≠ B.E k

def base (B : BI) : Asn :=
  ⟨fun w F => Globs B ∧ Keep (fun b => b < B.w0.heap.size) B.w0 w ∧ ∀ b, F b ↔ b < B.w0.heap.size,
   fun h b hb => Nat.lt_of_lt_of_le ((h.2.2 b).1 hb) h.2.1.size,
   fun {w w' F} h k => ⟨h.1, (h.2.1.trans k).mono fun b hb => ⟨hb, (h.2.2 b).2 hb⟩, h.2.2⟩⟩

section
variable {w : World} {B : BI} {l : List Asn}
theorem Sep.globs (h : Sep w (base B :: l)) : Globs B := let ⟨_, h⟩ := h.head; h.1
theorem Sep.base_keep (h : Sep w (base B :: l)) : Keep (fun b => b < B.w0.heap.size) B.w0 w := let ⟨_, h⟩ := h.head; h.2.1
theorem Sep.base_cell (h : Sep w (base B :: l)) {p : Addr} {v : Value} (hp : B.w0.cell? p = some v) : w.cell? p = some v :=
  (World.cell?_of_block (h.base_keep.block _ (World.block_lt_of_cell? _ _ hp))).trans hp
theorem Sep.err (h : Sep w (base B :: l)) (k : Nat) (hk : k ∈ B.errs) : w.cell? ⟨gno k, 0, none⟩ = some (errV B k) := h.base_cell (h.globs.var k hk)
theorem Sep.below (h : Sep w (base B :: l)) : Below B.w0.heap.size B.w0 w := let k := h.base_keep; ⟨k.os, k.tape, k.output, k.size, k.block⟩
theorem Sep.base_rd {size n c : Nat} {v : Value} {xs : List Value} (h : Sep w (base B :: l)) (hr : Rd B.w0 size v n c xs) : Rd w size v n c xs := hr.keep fun _ _ hp _ => h.base_cell hp
end
section
variable {w : World} {size n c k : Nat} {v : Value} {xs : List Value}
theorem Rd.drewN (h : Rd w size v n c xs) (k : Nat) : Rd (w.drewN k) size v n c xs := h.keep fun _ _ hp _ => by simpa using hp
theorem Rd.drew (h : Rd w size v n c xs) : Rd w.drew size v n c xs := h.drewN 1
theorem Rd.alloc (h : Rd w size v n c xs) (o : Obj) : Rd (w.alloc o) size v n c xs := h.keep fun p _ hp _ => (World.cell?_alloc_lt w o p (World.block_lt_of_cell? _ _ hp)).trans hp
theorem Rd.form (h : Rd w size v n c xs) : ∃ A, v = .slice A n c := let ⟨A, h, _⟩ := h; ⟨A, h⟩
end

/-- A slice from a place on: the value's address, length and capacity by names of their own. -/
theorem drop_any {P : Program} {t e : TypeId} {size bytes : Nat} (T : SlT P t e size bytes) (A : Option Addr) (n c k : Nat) (kd : IntKind) (hk : k ≤ n) :
    ∃ A' n' c', Hid (n' = n - k) ∧ (∀ W, (Instr.slice t (.slice A n c) (some (.int kd (k : Int))) none none).run P W = .ok (.slice A' n' c') W) ∧
      (∀ w xs, Rd w size (.slice A n c) n c xs → Rd w size (.slice A' n' c') n' c' (xs.drop (k * size))) ∧
      (∀ w xs l, Sep w (Own e size (.slice A n c) n xs :: l) → Sep w (Own e size (.slice A' n' c') n' (xs.drop (k * size)) :: l)) := by
  obtain ⟨i, z, ht, hi, hz, hsize, hby, hzs, hsz⟩ := T
  have he : P.elem t = e := by simp [Program.elem, ht]
  refine ⟨_, _, _, rfl, fun W => ?_, fun w xs h => h.drop hk, fun w xs l h => h.own_drop hk⟩
  rw [run_slice_l W t A n c (by rw [he]; exact ht) kd (k : Int) (by omega) (by omega)]
  simp [sizeOf, typeInfo, he, hi, hsize, sliced, Result.andThen]
theorem take_any {P : Program} {t e : TypeId} {size bytes : Nat} (T : SlT P t e size bytes) (A : Option Addr) (n c k : Nat) (kd : IntKind) (hk : k ≤ n) (hn : n ≤ c) :
    (∀ W, (Instr.slice t (.slice A n c) none (some (.int kd (k : Int))) none).run P W = .ok (.slice A k c) W) ∧
      (∀ w xs, Rd w size (.slice A n c) n c xs → Rd w size (.slice A k c) k c (xs.take (k * size))) := by
  obtain ⟨i, z, ht, hi, hz, hsize, hby, hzs, hsz⟩ := T
  have he : P.elem t = e := by simp [Program.elem, ht]
  refine ⟨fun W => ?_, fun w xs h => h.take hk⟩
  rw [run_slice_h W t A n c (by rw [he]; exact ht) kd (k : Int) (by omega) (by omega)]
  rcases A with _ | a <;> simp [sizeOf, typeInfo, he, hi, sliced, Result.andThen, Addr.add]

/-- A slice between two places: the value's address, length and capacity by names of their own. -/
theorem sub_any {P : Program} {t e : TypeId} {size bytes : Nat} (T : SlT P t e size bytes) (A : Option Addr) (n c : Nat) (kl kh : IntKind) (l h : Int) (lo hi : Nat) (hl : l = lo) (hh : h = hi) (h1 : lo ≤ hi) (h2 : hi ≤ n) (h3 : n ≤ c) :
    ∃ A' n' c', Hid (n' = hi - lo) ∧ (∀ W, (Instr.slice t (.slice A n c) (some (.int kl l)) (some (.int kh h)) none).run P W = .ok (.slice A' n' c') W) ∧
      (∀ w xs, Rd w size (.slice A n c) n c xs → Rd w size (.slice A' n' c') n' c' ((xs.take (hi * size)).drop (lo * size))) := by
  obtain ⟨i, z, ht, hi', hz, hsize, hby, hzs, hsz⟩ := T
  have he : P.elem t = e := by simp [Program.elem, ht]
  subst hl; subst hh
  refine ⟨_, _, _, rfl, fun W => ?_, fun w xs hr => (hr.take h2).drop h1⟩
  rw [run_slice_lh W t A n c (by rw [he]; exact ht) kl kh (lo : Int) (hi : Int) (by omega) (by omega) (by omega)]
  simp [sizeOf, typeInfo, he, hi', hsize, sliced, Result.andThen]

theorem slU8 : SlT Tryd.prog 30 5 1 1 := SlT.mk_ (z := .int .u8 0) Tryd.underlying30 (by kernel_rfl) rfl (by decide)
/-- Bytes, as cells. -/
def bv (l : List UInt8) : List Value := l.map fun b => .int .u8 (b.toNat : Int)
theorem bv_one (l : List UInt8) : One (bv l) := fun u hu => by obtain ⟨_, _, rfl⟩ := List.mem_map.1 hu; rfl
theorem bv_length (l : List UInt8) : (bv l).length = l.length := List.length_map _
theorem bv_app (l m : List UInt8) : bv (l ++ m) = bv l ++ bv m := List.map_append
theorem bv_take (l : List UInt8) (k : Nat) : bv (l.take k) = (bv l).take (k * 1) := by rw [Nat.mul_one]; exact List.map_take
theorem bv_drop (l : List UInt8) (k : Nat) : bv (l.drop k) = (bv l).drop (k * 1) := by rw [Nat.mul_one]; exact List.map_drop
theorem Rd.blen {w : World} {n c : Nat} {v : Value} {l : List UInt8} (h : Rd w 1 v n c (bv l)) : l.length = n := by have := h.len; rw [bv_length] at this; omega
theorem Rd.srcB {w : World} {v : Value} {n c : Nat} {l : List UInt8} (h : Rd w 1 v n c (bv l)) : Src Tryd.prog 1 30 v n (bv l) w := h.src Tryd.underlying30 (bv_one l)
/-- An owned slice of bytes. -/
def OwnB (v : Value) (l : List UInt8) : Asn := Own 5 1 v l.length (bv l)
section
variable {w : World} {a : Asn} {l : List UInt8} {R : List Asn} {A : Option Addr} {n c k : Nat} {v : Value}
theorem Sep.ownB_form (h : Sep w (OwnB v l :: R)) : ∃ A c, v = .slice A l.length c ∧ l.length ≤ c ∧ c ≤ maxLen := h.own_form
theorem Sep.rdB (h : Sep w (OwnB (.slice A n c) l :: R)) : n = l.length ∧ Rd w 1 (.slice A n c) n c (bv l) := by
  obtain ⟨A', c', e, _, _⟩ := h.own_form
  injection e with _ e2 _
  subst e2
  exact ⟨rfl, Sep.rd h⟩
end
end Go.Proofs.YtgegpjkihbhndaaDoor
