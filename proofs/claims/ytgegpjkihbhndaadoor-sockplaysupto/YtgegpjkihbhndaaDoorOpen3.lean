/- What is proved: the law's arguments, opened to cells. Conditions: their reading. -/
import Derived.Test.YtgegpjkihbhndaaDoorLaw3a
import Derived.Test.YtgegpjkihbhndaaDoorRows
import Derived.Deep.Slices
import Derived.Deep.Fields
import Derived.ChangeSame
import Derived.ChangeArms
namespace Go.Proofs.YtgegpjkihbhndaaDoor
open Go.RowKit Go.ChangeShapes Go.WideShapes Go.Deep
set_option linter.unusedVariables false

section
variable {H : Type}
theorem bulk_pos (d : DataW H) : 1 ≤ Rows.uptoBulk d := by
  cases d with
  | lit l => cases l <;> simp [Rows.uptoBulk]
  | _ => simp [Rows.uptoBulk]
theorem bulkAll_len (l : List (DataW H)) : l.length ≤ Rows.uptoBulkAll l := by
  induction l with
  | nil => simp
  | cons a l ih => simp only [Rows.uptoBulkAll, List.length_cons]; have := bulk_pos a; omega
theorem bulkAll_mem {l : List (DataW H)} {d : DataW H} (h : d ∈ l) : Rows.uptoBulk d ≤ Rows.uptoBulkAll l := by
  induction l with
  | nil => cases h
  | cons a l ih =>
    simp only [Rows.uptoBulkAll]
    rcases List.mem_cons.1 h with rfl | h
    · omega
    · have := ih h; omega
end

section
variable {H : Type} {enc : TypeId × Value → H} {P : Program} {w : World} {base : Nat} {spare : Nat → Bool} {held : Bool}
theorem u8_of_wf {k : Int} (h : (Lit.int .u8 k).wf = true) : ∃ b : UInt8, k = (b.toNat : Int) := by
  have hk : 0 ≤ k ∧ k ≤ 255 := by
    have := h
    simp [Lit.wf, IntKind.min, IntKind.max, IntKind.signed, IntKind.bits] at this
    omega
  refine ⟨UInt8.ofNat k.toNat, ?_⟩
  simp
  omega
/-- A slice of bytes that came in. -/
theorem open_bytes {t e : TypeId} {fuel : Nat} {cs : List Value} {x : DataW H × List MemPlace} (ht : P.underlying t = some (.slice e)) (he : P.underlying e = some (.int .u8)) (hc : P.cellsOf e = 1) (h : DataW.trod enc P w base spare held fuel t cs = some x) :
    ∃ A n c l, cs = [.slice A n c] ∧ Rd w 1 (.slice A n c) n c (bv l) ∧ n ≤ Rows.uptoBulk x.1 := by
  rcases open_slice1 ht hc h with ⟨rfl, rfl⟩ | ⟨a, len, cap, m, n, V, D, Pl, rfl, hb, hl, hm, hmm, rfl, hi⟩
  · exact ⟨none, 0, 0, [], rfl, Rd.nil_ _ _, Nat.zero_le _⟩
  have hlm : len ≤ m := by rw [hmm]; split <;> omega
  have hv : ∀ i, ∃ b : UInt8, i < len → w.cell? (a.add i) = some (.int .u8 (b.toNat : Int)) := fun i => by
    by_cases h : i < len
    · obtain ⟨h1, h2⟩ := hi i (by omega)
      obtain ⟨k, hk, _, hwf⟩ := DataW.trod_int he h2
      obtain ⟨b, rfl⟩ := u8_of_wf hwf
      injection hk with hk
      exact ⟨b, fun _ => by rw [h1, hk]⟩
    · exact ⟨0, fun h' => absurd h' h⟩
  obtain ⟨f, hf⟩ := Classical.axiomOfChoice hv
  refine ⟨some a, len, cap, (List.range len).map f, rfl, ⟨some a, rfl, hl, hm, by simp [bv], fun _ => ⟨a, rfl, fun j u hu => ?_⟩⟩, ?_⟩
  · have hj := (List.getElem?_eq_some_iff.1 hu).1
    have hj' : j < len := by simpa [bv] using hj
    rw [hf j hj']
    simp [bv, hj'] at hu
    rw [← hu]
  · simp only [Rows.uptoBulk]
    have := bulkAll_len ((List.range len).map D)
    rw [List.length_map, List.length_range] at this
    omega
/-- The script that came in. -/
theorem open_script {t e tb tu : TypeId} {f0 f1 f2 f3 : Field} {fuel : Nat} {cs : List Value} {x : DataW H × List MemPlace} (ht : P.underlying t = some (.slice e)) (he : P.underlying e = some (.struct #[f0, f1, f2, f3])) (hC : P.cellsOf e = 4)
    (k0 : P.underlying f0.type = some (.int .i64)) (k1 : P.underlying f1.type = some (.int .i64)) (k2 : P.underlying f2.type = some (.int .i64)) (k3 : P.underlying f3.type = some (.slice tu)) (ku : P.underlying tu = some (.int .u8))
    (o0 : f0.offset = 0) (o1 : f1.offset = 1) (o2 : f2.offset = 2) (o3 : f3.offset = 3) (c0 : P.cellsOf f0.type = 1) (c1 : P.cellsOf f1.type = 1) (c2 : P.cellsOf f2.type = 1) (c3 : P.cellsOf f3.type = 1) (cu : P.cellsOf tu = 1)
    (hb : Rows.uptoBulk x.1 ≤ 1048576) (h : DataW.trod enc P w base spare held fuel t cs = some x) :
    ∃ A c ops, cs = [.slice A ops.length c] ∧ Script3 w A ops ∧ ops.length ≤ 1048576 := by
  rcases open_slice ht h with ⟨rfl, rfl⟩ | ⟨a, len, cap, m, n, D, Pl, rfl, hba, hl, hm, hmm, rfl, hi⟩
  · exact ⟨none, 0, [], rfl, ⟨fun i o h => by simp at h, fun i o h => by simp at h⟩, Nat.zero_le _⟩
  have hlm : len ≤ m := by rw [hmm]; split <;> omega
  simp only [Rows.uptoBulk] at hb
  have hlen := bulkAll_len ((List.range len).map D)
  rw [List.length_map, List.length_range] at hlen
  have hv : ∀ i, ∃ o : OpV, i < len → (∀ j u, o.cells[j]? = some u → w.cell? ((a.add (i * 4)).add j) = some u) ∧ Rd w 1 o.v o.m o.c (bv o.l) ∧ o.m ≤ 140737488355322 := fun i => by
    by_cases hil : i < len
    · obtain ⟨cs', hc, ht'⟩ := hi i (by omega)
      rw [hC] at hc
      obtain ⟨ys, n', hn', hy, hlen', hyl, hf⟩ := DataW.trod_struct he ht'
      obtain ⟨_, hcl, hat⟩ := World.cells?_some hc
      match cs', hcl with
      | [w0, w1, w2, w3], _ =>
        have g0 := hf 0 f0 rfl
        have g1 := hf 1 f1 rfl
        have g2 := hf 2 f2 rfl
        have g3 := hf 3 f3 rfl
        rw [o0, c0] at g0
        rw [o1, c1] at g1
        rw [o2, c2] at g2
        rw [o3, c3] at g3
        have hys : ∀ j f, #[f0, f1, f2, f3][j]? = some f → ∃ y, ys[j]? = some y := fun j f hj => by
          have := (Array.getElem?_eq_some_iff.1 hj).1
          exact ⟨_, List.getElem?_eq_getElem (by rw [hyl]; exact this)⟩
        obtain ⟨y0, e0⟩ := hys 0 f0 rfl
        obtain ⟨y1, e1⟩ := hys 1 f1 rfl
        obtain ⟨y2, e2⟩ := hys 2 f2 rfl
        obtain ⟨y3, e3⟩ := hys 3 f3 rfl
        obtain ⟨v0, q0, _, _⟩ := DataW.trod_int k0 (g0.trans e0)
        obtain ⟨v1, q1, _, _⟩ := DataW.trod_int k1 (g1.trans e1)
        obtain ⟨v2, q2, _, _⟩ := DataW.trod_int k2 (g2.trans e2)
        obtain ⟨A3, n3, cc3, l3, q3, r3, b3⟩ := open_bytes k3 ku cu (g3.trans e3)
        simp only [Prod.mk.injEq] at hy
        have hD : Rows.uptoBulk y3.1 ≤ Rows.uptoBulk (D i) := by
          rw [hy.1]
          simp only [Rows.uptoBulk]
          have : y3.1 ∈ ys.map (·.1) := List.mem_map.2 ⟨y3, List.mem_of_getElem? e3, rfl⟩
          have := bulkAll_mem this
          omega
        have hDi : Rows.uptoBulk (D i) ≤ Rows.uptoBulkAll ((List.range len).map D) := bulkAll_mem (List.mem_map.2 ⟨i, List.mem_range.2 hil, rfl⟩)
        refine ⟨⟨v0, v1, v2, .slice A3 n3 cc3, n3, cc3, l3⟩, fun _ => ⟨fun j u hu => ?_, r3, by dsimp only; omega⟩⟩
        simp at q0 q1 q2 q3
        subst q0; subst q1; subst q2; subst q3
        have hj := (List.getElem?_eq_some_iff.1 hu).1
        simp [OpV.cells] at hj
        rw [hat j hj]
        exact hu
    · exact ⟨⟨0, 0, 0, .nilIface, 0, 0, []⟩, fun h' => absurd h' hil⟩
  obtain ⟨f, hf⟩ := Classical.axiomOfChoice hv
  refine ⟨some a, cap, (List.range len).map f, by simp, ⟨fun i o ho => ?_, fun i o ho => ?_⟩, by simp; omega⟩
  · have hil : i < len := by have := (List.getElem?_eq_some_iff.1 ho).1; simpa using this
    simp [hil] at ho
    subst ho
    exact ⟨a, rfl, (hf i hil).1⟩
  · have hil : i < len := by have := (List.getElem?_eq_some_iff.1 ho).1; simpa using this
    simp [hil] at ho
    subst ho
    exact (hf i hil).2
end
end Go.Proofs.YtgegpjkihbhndaaDoor
