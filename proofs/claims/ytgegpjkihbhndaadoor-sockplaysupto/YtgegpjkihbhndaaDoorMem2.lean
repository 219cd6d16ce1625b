/- What is proved: append, in the words of a separating list. Conditions: none. -/
import Derived.Test.YtgegpjkihbhndaaDoorMem
import Derived.Deep.RegionLaw
import Derived.Deep.AppendSrc
import Derived.Deep.Upon
namespace Go.Proofs.YtgegpjkihbhndaaDoor
open Go.RowKit
set_option linter.unusedVariables false

/-- A slice type and its element's row of the program's table. -/
def SlT (P : Program) (t e : TypeId) (size bytes : Nat) : Prop :=
  ∃ i z, P.underlying t = some (.slice e) ∧ P.info? e = some i ∧ i.zero = some z ∧ i.size = size ∧ i.bytes = bytes ∧ z.cells.size = size ∧ 0 < size
theorem SlT.mk_ {P : Program} {t e : TypeId} {size bytes : Nat} {z : Value} (ht : P.underlying t = some (.slice e)) (hi : (P.info? e).map (fun i => (i.zero, i.size, i.bytes)) = some (some z, size, bytes)) (hz : z.cells.size = size) (h0 : 0 < size) : SlT P t e size bytes := by
  obtain ⟨i, h1, h2, h3, h4⟩ := info_parts hi
  exact ⟨i, z, ht, h1, h2, h3, h4, hz, h0⟩

/-- one cell each -/
def One (xs : List Value) : Prop := ∀ u ∈ xs, u.oneCell' = true
theorem One.app {xs ys : List Value} (h : One xs) (k : One ys) : One (xs ++ ys) := fun u hu => (List.mem_append.1 hu).elim (h u) (k u)
theorem One.take {xs : List Value} (h : One xs) (k : Nat) : One (xs.take k) := fun u hu => h u (List.mem_of_mem_take hu)
theorem One.drop {xs : List Value} (h : One xs) (k : Nat) : One (xs.drop k) := fun u hu => h u (List.mem_of_mem_drop hu)

section
variable {P : Program} {w : World}
theorem setCells_block (g : Nat) (e : TypeId) (fr : Nat × Nat) : ∀ (vs : List Value) (o : Nat) (w : World) (cur : Array Value), w.heap[g]? = some (.cells cur e fr) → ∃ cur', (w.setCells g o vs).heap[g]? = some (.cells cur' e fr) ∧ cur'.size = cur.size
  | [], _, _, cur, h => ⟨cur, h, rfl⟩
  | v :: r, o, w, cur, h => by
    obtain ⟨cur', h1, h2⟩ := setCells_block g e fr r (o + 1) (w.setCell ⟨g, o, none⟩ v) (cur.setIfInBounds o v) (by simp [World.setCell, Array.getElem?_modify, h])
    exact ⟨cur', h1, by simpa using h2⟩
theorem setCells_keep (g : Nat) : ∀ (vs : List Value) (o : Nat) (w : World), Keep (fun b => b ≠ g) w (w.setCells g o vs)
  | [], _, w => .refl _ w
  | v :: r, o, w => ((Keep.setCell w ⟨g, o, none⟩ v).trans (setCells_keep g r (o + 1) _)).mono fun _ hb => ⟨hb, hb⟩

/-- What is appended, in every world that reads so. -/
theorem Rd.src {size : Nat} {tx e' : TypeId} {sv : Value} {m c : Nat} {news : List Value} (hk : P.underlying tx = some (.slice e')) (hr : Rd w size sv m c news) (h1 : One news) : Src P size tx sv m news w := by
  obtain ⟨A0, rfl, hmc, _, hl, hc⟩ := hr
  rcases A0 with _ | ad
  · have hm : m = 0 := by
      rcases Nat.eq_zero_or_pos m with h0 | h0
      · exact h0
      · obtain ⟨ad, he, _⟩ := hc h0
        cases he
    subst hm
    obtain rfl : news = [] := List.eq_nil_of_length_eq_zero (by simpa using hl)
    exact Src.ofNil w hk c
  · refine Src.ofSlice w hk ad m c news hl (fun j u hu => ?_) h1
    rcases Nat.eq_zero_or_pos m with h0 | h0
    · subst h0
      obtain rfl : news = [] := List.eq_nil_of_length_eq_zero (by simpa using hl)
      simp at hu
    · obtain ⟨ad', he, hc⟩ := hc h0
      injection he with he
      subst he
      exact hc j u hu

theorem run_append_sep {l : List Asn} {t tx ty e : TypeId} {size bytes : Nat} {v sv : Value} {n m : Nat} {xs news : List Value} (h : Sep w (Own e size v n xs :: l)) (T : SlT P t e size bytes)
    (hs : Src P size tx sv m news w) (h63 : n + m ≤ maxLen) (hb : (n + m) * bytes ≤ 140737488355328) :
    ∃ A c' w', (Builtin.append_ #[t, tx] ty #[v, sv]).run P w = .ok (.slice A (n + m) c') w' ∧ Sep w' (Own e size (.slice A (n + m) c') (n + m) (xs ++ news) :: l) := by
  obtain ⟨i, z, ht, hi, hz, hsize, hby, hzs, hsz⟩ := T
  subst hsize; subst hby
  obtain ⟨A0, c0, rfl, hnc, hcm⟩ := h.own_form
  have hxl := h.own_len
  have hnl := hs.newsLen
  by_cases hm : m = 0
  · subst hm
    obtain rfl : news = [] := List.eq_nil_of_length_eq_zero (by simpa using hnl)
    exact ⟨A0, c0, w, run_append_nothing w t tx ty e i ht hi A0 n c0 hnc sv hs, by simpa using h⟩
  by_cases hroom : n + m ≤ c0
  · obtain ⟨F, hl, ⟨A', hv, rfl, h0⟩ | ⟨g, off, cap, cur, fr, hv, hg, h1, h2, h3, h4, h5, hF⟩⟩ := h.own
    · injection hv with _ _ e3
      omega
    · injection hv with e1 _ e3
      subst e1; subst e3
      have hle : n * i.size + m * i.size ≤ c0 * i.size := by rw [← Nat.add_mul]; exact Nat.mul_le_mul_right _ hroom
      have hcell : ∀ j, j < news.length → (w.cell? ⟨g, off + n * i.size + j, none⟩).isSome = true := fun j hj => by
        rw [cell_of_row w g _ cur e fr hg]; simp; omega
      have hfr : ∀ j, j < news.length → w.frozen? ⟨g, off + n * i.size + j, none⟩ = false := fun j hj => by
        have := h4 (off + n * i.size + j) (by omega) (by omega)
        simp only [World.frozen?, hg]; simp; omega
      refine ⟨_, _, _, run_append_room_src w t tx ty e i ht hi g off n c0 sv m news hs hroom hcell hfr, ?_⟩
      obtain ⟨cur', hg', hsz'⟩ := setCells_block g e fr news (off + n * i.size) w cur hg
      refine h.step1 fun G hG => ⟨?_, fun b => b = g, ⟨by rw [List.length_append, hxl, hnl, Nat.add_mul], .inr ⟨g, off, c0, cur', fr, rfl, hg', hroom, h2, by rw [hsz']; exact h3, h4, fun j u hu => ?_, fun _ => Iff.rfl⟩⟩, fun b hb => .inl ?_⟩
      · refine (setCells_keep g _ _ _).mono fun b hb he => hb.2 ?_
        obtain ⟨_, ⟨A', hv', _, _⟩ | ⟨g', off', cap', cur'', fr', hv', _, _, _, _, _, _, hF'⟩⟩ := hG
        · injection hv' with _ _ e3; omega
        · injection hv' with e1 _ _
          injection e1 with e1
          injection e1 with e1 _
          rw [hF' b, ← e1]; exact he
      · rw [← cell_of_row _ g _ cur' e fr hg']
        by_cases hj : j < xs.length
        · rw [List.getElem?_append_left hj] at hu
          rw [World.cell?_setCells_out g news _ w _ (fun _ _ => .inl (by simp; omega)), cell_of_row w g _ cur e fr hg]
          exact h5 j u hu
        · rw [List.getElem?_append_right (by omega)] at hu
          have hj' := (List.getElem?_eq_some_iff.1 hu).1
          have := World.cell?_setCells_in g news (off + n * i.size) w hcell (j - xs.length) hj'
          rw [show off + j = off + n * i.size + (j - xs.length) by omega, this, ← hu, List.getElem?_eq_getElem hj']
      · obtain ⟨_, ⟨A', hv', _, _⟩ | ⟨g', off', cap', cur'', fr', hv', _, _, _, _, _, _, hF'⟩⟩ := hG
        · injection hv' with _ _ e3; omega
        · injection hv' with e1 _ _
          injection e1 with e1
          injection e1 with e1 _
          rw [hF' b, hb, e1]
  · have hold : (Builtin.firstCells i.size n (.slice A0 n c0)).run P w.drew = .ok xs.toArray w.drew := by
      obtain ⟨A, e0, _, _, _, hc⟩ := h.rd
      injection e0 with e0 _ _
      subst e0
      rcases A0 with _ | ad
      · rcases Nat.eq_zero_or_pos n with h0 | h0
        · subst h0
          obtain rfl : xs = [] := List.eq_nil_of_length_eq_zero (by simpa using hxl)
          exact run_firstCells_none w.drew i.size 0 0 c0
        · obtain ⟨ad, he, _⟩ := hc h0
          cases he
      · refine run_firstCells_some w.drew i.size n ad n c0 xs hxl fun j u hu => ?_
        rcases Nat.eq_zero_or_pos n with h0 | h0
        · subst h0
          obtain rfl : xs = [] := List.eq_nil_of_length_eq_zero (by simpa using hxl)
          simp at hu
        · obtain ⟨ad', he, hc⟩ := hc h0
          injection he with he
          subst he
          simpa using hc j u hu
    have hge := grownCap_ge w (n + m) c0 e
    have hgm := grownCap_le_maxLen w (n + m) c0 e h63
    refine ⟨_, _, _, run_append_grow_src w t tx ty e i z ht hi hz A0 n c0 xs hold sv m news hs (by omega) (by unfold maxLen at h63; omega) (growslice_fits (by omega) hb), ?_⟩
    have hsz2 : ((xs ++ news).toArray ++ Builtin.zeroCells z.cells (grownCap w (n + m) c0 e - (n + m))).size = grownCap w (n + m) c0 e * i.size := by
      simp only [Array.size_append, List.size_toArray, size_zeroCells, hzs, List.length_append, hxl, hnl, ← Nat.add_mul]
      congr 1
      omega
    have h2 := (h.drew.tail.alloc e ((xs ++ news).toArray ++ Builtin.zeroCells z.cells (grownCap w (n + m) c0 e - (n + m)))).blk_own i.size (n + m) (grownCap w (n + m) c0 e) hsz2 hge hgm
    have e3 : ((xs ++ news).toArray ++ Builtin.zeroCells z.cells (grownCap w (n + m) c0 e - (n + m))).toList.take ((n + m) * i.size) = xs ++ news := by
      rw [Array.toList_append, List.take_left']
      rw [List.length_append, hxl, hnl, Nat.add_mul]
    rw [e3] at h2
    exact h2

variable {ops : Array Oper} {rest : List Oper} {o : Oper} {a : Act} {Q : Exit → Act → World → Prop} {K : Act → World → Prop}
theorem wp_append_sep (s x : Operand) (t tx : TypeId) (ho : o.op = .call { callee := .builtin .append, args := #[s, x], argTypes := #[t, tx] })
    {l : List Asn} {e : TypeId} {size bytes : Nat} {v sv : Value} {n m : Nat} {xs news : List Value} (T : SlT P t e size bytes) (h : Sep w (Own e size v n xs :: l)) (hs : a.eval s = v) (hx : a.eval x = sv)
    (hr : Src P size tx sv m news w) (h63 : n + m ≤ maxLen) (hb : (n + m) * bytes ≤ 140737488355328)
    (hK : ∀ A c' w', Sep w' (Own e size (.slice A (n + m) c') (n + m) (xs ++ news) :: l) → K (a.put o.dst (.slice A (n + m) c')) w') : o.wp P a w K Q := by
  obtain ⟨A, c', w', hrun, h2⟩ := run_append_sep (ty := o.type) h T hr h63 hb
  unfold Oper.wp execOp
  simp only [ho, resolve, invoke, builtin, Sem.run_bind, Sem.run_pure, Result.andThen_ok, List.map_toArray, List.map_cons, List.map_nil, hs, hx, hrun]
  exact hK A c' w' h2
theorem wpList_append_sep (hgd : o.guard = none) (s x : Operand) (t tx : TypeId) (ho : o.op = .call { callee := .builtin .append, args := #[s, x], argTypes := #[t, tx] })
    {l : List Asn} {e : TypeId} {size bytes : Nat} {v sv : Value} {n m : Nat} {xs news : List Value} (T : SlT P t e size bytes) (h : Sep w (Own e size v n xs :: l)) (hs : a.eval s = v) (hx : a.eval x = sv)
    (hr : Src P size tx sv m news w) (h63 : n + m ≤ maxLen) (hb : (n + m) * bytes ≤ 140737488355328)
    (hK : ∀ A c' w', Sep w' (Own e size (.slice A (n + m) c') (n + m) (xs ++ news) :: l) → wpList P ops Q rest (a.put o.dst (.slice A (n + m) c')) w') : wpList P ops Q (o :: rest) a w :=
  wpList_plain hgd fun _ hKK => wp_append_sep s x t tx ho T h hs hx hr h63 hb fun A c' w' h2 => hKK _ _ (hK A c' w' h2)
theorem step_append_sep {E : Prop} (hgd : o.guard = none) (s x : Operand) (t tx : TypeId) (ho : o.op = .call { callee := .builtin .append, args := #[s, x], argTypes := #[t, tx] })
    {l : List Asn} {e : TypeId} {size bytes : Nat} {v sv : Value} {n m : Nat} {xs news : List Value} (T : SlT P t e size bytes) (h : Sep w (Own e size v n xs :: l)) (hs : a.eval s = v) (hx : a.eval x = sv)
    (hr : Src P size tx sv m news w) (h63 : n + m ≤ maxLen) (hb : (n + m) * bytes ≤ 140737488355328)
    (hK : ∀ A c' w', Sep w' (Own e size (.slice A (n + m) c') (n + m) (xs ++ news) :: l) → K (a.put o.dst (.slice A (n + m) c')) w') :
    if Region.wanted o (yielded ops a.tmps) = true then Oper.wp P o a w K Q else E := by
  have hw : Region.wanted o (yielded ops a.tmps) = true := by simp [Region.wanted, hgd]
  rw [if_pos hw]
  exact wp_append_sep s x t tx ho T h hs hx hr h63 hb hK
end
end Go.Proofs.YtgegpjkihbhndaaDoor
