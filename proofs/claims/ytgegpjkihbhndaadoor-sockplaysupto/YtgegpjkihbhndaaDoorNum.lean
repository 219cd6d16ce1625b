/- What is proved: what Bytes, Num and Kept of package jackfieldnum compute. Conditions: their arguments can be read. -/
import Derived.Test.YtgegpjkihbhndaaDoorBase
import Derived.Handy
import Derived.Laws.MakeOwn
namespace Go.Proofs.YtgegpjkihbhndaaDoor
open Go.RowKit
set_option linter.unusedVariables false

theorem wpList_make_sep {P : Program} {w : World} {ops : Array Oper} {rest : List Oper} {o : Oper} {a : Act} {Q : Exit → Act → World → Prop} (hgd : o.guard = none) (x c : Operand) (t : TypeId) (ho : o.op = Op.makeSlice t x c)
    {l : List Asn} {e : TypeId} {size bytes : Nat} (T : SlT P t e size bytes) (h : Sep w l) (kl kc : IntKind) (C : Int) (n : Nat) (hx : a.eval x = .int kl 0) (hc : a.eval c = .int kc C) (hC : C = (n : Int)) (b2 : bytes * n ≤ 281474976710656) (b3 : n ≤ maxLen)
    (hK : ∀ A w', Sep w' (Own e size (.slice A 0 n) 0 [] :: l) → wpList P ops Q rest (a.put o.dst (.slice A 0 n)) w') : wpList P ops Q (o :: rest) a w := by
  obtain ⟨i, z, ht, hi, hz, hsize, hby, hzs, hsz⟩ := T
  exact wpList_make_own w hgd x c t ho w.heap.size e i z size ht hi hz hsize kl kc C n hx hc hC (by rw [hby]; exact b2) b3 (Nat.le_refl _) fun w' h1 h2 => hK _ _ (h.made h1 h2 (Nat.le_refl _))

/-- The marks that Bytes lays behind its copy. -/
def marks6 : List UInt8 := [201, 202, 203, 204, 205, 206]
set_option maxHeartbeats 1600000 in
set_option maxRecDepth 100000 in
theorem nBytes_any {w : World} {B : BI} {R : List Asn} {v : Value} {n c : Nat} {l : List UInt8} (h : Sep w (base B :: R)) (hr : Rd B.w0 1 v n c (bv l)) (hn : n ≤ 140737488355322) :
    Calls Tryd.prog 11 #[v] w fun r w' => ∃ A c', r = .returned (.slice A l.length c') ∧ Sep w' (base B :: Own 5 1 (.slice A (l.length + 6) c') (l.length + 6) (bv (l ++ marks6)) :: R) := by
  obtain ⟨A, rfl⟩ := hr.form
  obtain rfl := hr.blen
  have b1 : 1 * (l.length + 6) ≤ 281474976710656 := by omega
  have b2 : l.length + 6 ≤ maxLen := by simp only [maxLen]; omega
  have b3 : 0 + l.length ≤ maxLen := by simp only [maxLen]; omega
  have b4 : (0 + l.length) * 1 ≤ 140737488355328 := by omega
  have b5 : l.length + 6 ≤ maxLen := by simp only [maxLen]; omega
  have b6 : (l.length + 6) * 1 ≤ 140737488355328 := by omega
  have hr0 := hid hr
  clear hr
  go_enter Tryd.func11, Tryd.ntmps11
  go_wp2_with (at_make; refine wpList_make_sep rfl _ _ _ rfl slU8 h _ _ _ (l.length + 6) rfl rfl ?c1 b1 b2 ?c2)
  case c1 => simp
  case c2 =>
    intro A1 w1 h1
    go_wp2_with (at_builtin; refine wpList_append_sep rfl (.tmp 7) (.tmp 8) _ _ rfl slU8 h1 rfl rfl ((h1.swap.base_rd hr0.out).srcB) b3 b4 ?c3)
    case c3 =>
      intro A2 c2 w2 h2
      have h3 := (h2.own_new 5 1 6 #[.int .u8 201, .int .u8 202, .int .u8 203, .int .u8 204, .int .u8 205, .int .u8 206] rfl (by decide))
      go_wp2_with (at_builtin; refine wpList_append_sep rfl (.tmp 9) (.tmp 10) _ _ rfl slU8 h3.swap rfl rfl (Rd.srcB (l := marks6) h3.rd) b5 b6 ?c4)
      case c4 =>
        intro A3 c3 w3 h4
        have hle := h4.own_le.1
        have h5 : Sep w3 (base B :: Own 5 1 (.slice A3 (l.length + 6) c3) (l.length + 6) (bv (l ++ marks6)) :: R) := by
          have := h4.drop1.swap
          rw [← bv_app] at this
          exact this
        have h6 := hid h5
        clear h1 h2 h3 h4 h5
        go_wp2
        go_ret
        exact ⟨A3, c3, by simp, h6.out⟩

/-- All errors are known. -/
def BI.all (B : BI) : Prop := ∀ k ∈ [1, 2, 3, 4, 5, 6, 7, 8, 9, 10, 11, 12, 13, 14, 15, 16, 17, 18], k ∈ B.errs
theorem BI.all.mem {B : BI} (h : B.all) {k : Nat} (h1 : 1 ≤ k) (h2 : k ≤ 18) : k ∈ B.errs := h k (by simp; omega)

theorem nNum_nil (w : World) : Calls Tryd.prog 14 #[.nilIface] w fun r w' => r = .returned (.int .i64 0) ∧ w = w' := by
  go_enter Tryd.func14, Tryd.ntmps14
  go_wp2
  go_ret
  exact ⟨rfl, rfl⟩
theorem errs_cells {w : World} {B : BI} : ∀ i, i < 18 → (w.alloc (.cells #[.iface 178 (.pointer (some (B.E 1))), .iface 178 (.pointer (some (B.E 2))), .iface 178 (.pointer (some (B.E 3))), .iface 178 (.pointer (some (B.E 4))), .iface 178 (.pointer (some (B.E 5))), .iface 178 (.pointer (some (B.E 6))), .iface 178 (.pointer (some (B.E 7))), .iface 178 (.pointer (some (B.E 8))), .iface 178 (.pointer (some (B.E 9))), .iface 178 (.pointer (some (B.E 10))), .iface 178 (.pointer (some (B.E 11))), .iface 178 (.pointer (some (B.E 12))), .iface 178 (.pointer (some (B.E 13))), .iface 178 (.pointer (some (B.E 14))), .iface 178 (.pointer (some (B.E 15))), .iface 178 (.pointer (some (B.E 16))), .iface 178 (.pointer (some (B.E 17))), .iface 178 (.pointer (some (B.E 18)))] 26)).cell? ⟨w.heap.size, i, none⟩ = some (.iface 178 (.pointer (some (B.E (i + 1))))) := by
  intro i hi
  rw [World.cell?_alloc_new]
  obtain rfl | rfl | rfl | rfl | rfl | rfl | rfl | rfl | rfl | rfl | rfl | rfl | rfl | rfl | rfl | rfl | rfl | rfl : i = 0 ∨ i = 1 ∨ i = 2 ∨ i = 3 ∨ i = 4 ∨ i = 5 ∨ i = 6 ∨ i = 7 ∨ i = 8 ∨ i = 9 ∨ i = 10 ∨ i = 11 ∨ i = 12 ∨ i = 13 ∨ i = 14 ∨ i = 15 ∨ i = 16 ∨ i = 17 := by omega
  all_goals rfl
set_option maxHeartbeats 1600000 in
set_option maxRecDepth 100000 in
theorem nNum_some {w : World} {B : BI} {R : List Asn} (h : Sep w (base B :: R)) (hE : B.all) (k : Nat) (h1 : 1 ≤ k) (h2 : k ≤ 18) :
    Calls Tryd.prog 14 #[.iface 178 (.pointer (some (B.E k)))] w fun r w' => r = .returned (.int .i64 k) ∧ Sep w' (base B :: R) := by
  have e1 : World.cell? _ ⟨0, 0, none⟩ = some (.iface 178 (.pointer (some (B.E 1)))) := Sep.err h 1 (hE 1 (by decide))
  have e2 : World.cell? _ ⟨7, 0, none⟩ = some (.iface 178 (.pointer (some (B.E 2)))) := Sep.err h 2 (hE 2 (by decide))
  have e3 : World.cell? _ ⟨3, 0, none⟩ = some (.iface 178 (.pointer (some (B.E 3)))) := Sep.err h 3 (hE 3 (by decide))
  have e4 : World.cell? _ ⟨8, 0, none⟩ = some (.iface 178 (.pointer (some (B.E 4)))) := Sep.err h 4 (hE 4 (by decide))
  have e5 : World.cell? _ ⟨5, 0, none⟩ = some (.iface 178 (.pointer (some (B.E 5)))) := Sep.err h 5 (hE 5 (by decide))
  have e6 : World.cell? _ ⟨2, 0, none⟩ = some (.iface 178 (.pointer (some (B.E 6)))) := Sep.err h 6 (hE 6 (by decide))
  have e7 : World.cell? _ ⟨9, 0, none⟩ = some (.iface 178 (.pointer (some (B.E 7)))) := Sep.err h 7 (hE 7 (by decide))
  have e8 : World.cell? _ ⟨4, 0, none⟩ = some (.iface 178 (.pointer (some (B.E 8)))) := Sep.err h 8 (hE 8 (by decide))
  have e9 : World.cell? _ ⟨10, 0, none⟩ = some (.iface 178 (.pointer (some (B.E 9)))) := Sep.err h 9 (hE 9 (by decide))
  have e10 : World.cell? _ ⟨11, 0, none⟩ = some (.iface 178 (.pointer (some (B.E 10)))) := Sep.err h 10 (hE 10 (by decide))
  have e11 : World.cell? _ ⟨12, 0, none⟩ = some (.iface 178 (.pointer (some (B.E 11)))) := Sep.err h 11 (hE 11 (by decide))
  have e12 : World.cell? _ ⟨1, 0, none⟩ = some (.iface 178 (.pointer (some (B.E 12)))) := Sep.err h 12 (hE 12 (by decide))
  have e13 : World.cell? _ ⟨13, 0, none⟩ = some (.iface 178 (.pointer (some (B.E 13)))) := Sep.err h 13 (hE 13 (by decide))
  have e14 : World.cell? _ ⟨14, 0, none⟩ = some (.iface 178 (.pointer (some (B.E 14)))) := Sep.err h 14 (hE 14 (by decide))
  have e15 : World.cell? _ ⟨15, 0, none⟩ = some (.iface 178 (.pointer (some (B.E 15)))) := Sep.err h 15 (hE 15 (by decide))
  have e16 : World.cell? _ ⟨16, 0, none⟩ = some (.iface 178 (.pointer (some (B.E 16)))) := Sep.err h 16 (hE 16 (by decide))
  have e17 : World.cell? _ ⟨6, 0, none⟩ = some (.iface 178 (.pointer (some (B.E 17)))) := Sep.err h 17 (hE 17 (by decide))
  have e18 : World.cell? _ ⟨17, 0, none⟩ = some (.iface 178 (.pointer (some (B.E 18)))) := Sep.err h 18 (hE 18 (by decide))
  have hb := fun j (h1 : 1 ≤ j) (h2 : j ≤ 18) => h.globs.blk j (hE.mem h1 h2)
  have hne := fun i j (h1 : 1 ≤ i) (h2 : i ≤ 18) (h3 : 1 ≤ j) (h4 : j ≤ 18) => h.globs.ne i (hE.mem h1 h2) j (hE.mem h3 h4)
  have hcells := hid (@errs_cells w B)
  have hend := hid (h.alloc_ (.cells #[.iface 178 (.pointer (some (B.E 1))), .iface 178 (.pointer (some (B.E 2))), .iface 178 (.pointer (some (B.E 3))), .iface 178 (.pointer (some (B.E 4))), .iface 178 (.pointer (some (B.E 5))), .iface 178 (.pointer (some (B.E 6))), .iface 178 (.pointer (some (B.E 7))), .iface 178 (.pointer (some (B.E 8))), .iface 178 (.pointer (some (B.E 9))), .iface 178 (.pointer (some (B.E 10))), .iface 178 (.pointer (some (B.E 11))), .iface 178 (.pointer (some (B.E 12))), .iface 178 (.pointer (some (B.E 13))), .iface 178 (.pointer (some (B.E 14))), .iface 178 (.pointer (some (B.E 15))), .iface 178 (.pointer (some (B.E 16))), .iface 178 (.pointer (some (B.E 17))), .iface 178 (.pointer (some (B.E 18)))] 26))
  obtain ⟨w1, hw1⟩ : ∃ w1, w1 = w.alloc (.cells #[.iface 178 (.pointer (some (B.E 1))), .iface 178 (.pointer (some (B.E 2))), .iface 178 (.pointer (some (B.E 3))), .iface 178 (.pointer (some (B.E 4))), .iface 178 (.pointer (some (B.E 5))), .iface 178 (.pointer (some (B.E 6))), .iface 178 (.pointer (some (B.E 7))), .iface 178 (.pointer (some (B.E 8))), .iface 178 (.pointer (some (B.E 9))), .iface 178 (.pointer (some (B.E 10))), .iface 178 (.pointer (some (B.E 11))), .iface 178 (.pointer (some (B.E 12))), .iface 178 (.pointer (some (B.E 13))), .iface 178 (.pointer (some (B.E 14))), .iface 178 (.pointer (some (B.E 15))), .iface 178 (.pointer (some (B.E 16))), .iface 178 (.pointer (some (B.E 17))), .iface 178 (.pointer (some (B.E 18)))] 26) := ⟨_, rfl⟩
  have hblk : ∀ j, 1 ≤ j → j ≤ 18 → ∃ cs t, w1.heap[(B.E j).block]? = some (.cells cs t (0, 0)) := fun j a b => by
    obtain ⟨cs, t, hc⟩ := hb j a b
    have hlt := lt_of_block hc
    have hk := hend.out.base_keep
    rw [hw1]
    exact ⟨cs, t, (hk.block _ hlt).trans hc⟩
  have heq : ∀ i, 1 ≤ i → i ≤ 18 → (binOp .eql 26 (.iface 178 (.pointer (some (B.E k)))) (.iface 178 (.pointer (some (B.E i))))).run Tryd.prog w1 = .ok (.bool (k == i)) w1 := fun i a b => by
    obtain ⟨cs, t, c1⟩ := hblk k h1 h2
    obtain ⟨cs', t', c2⟩ := hblk i a b
    by_cases he : k = i
    · subst he
      simpa using run_eql_iface_ptr_same (P := Tryd.prog) (i := Tryd.t178) (j := Tryd.t202) w1 (B.E k) Tryd.underlying26 Tryd.underlying178 (by kernel_rfl) (by kernel_rfl) (by kernel_rfl)
    · have e : (k == i) = false := by simpa using he
      rw [e]
      exact run_eql_iface_ptr_other (P := Tryd.prog) (i := Tryd.t178) (j := Tryd.t202) w1 Tryd.underlying26 Tryd.underlying178 (by kernel_rfl) (by kernel_rfl) (by kernel_rfl) (by decide) (hne k i h1 h2 a b he) c1 c2
  subst hw1
  have Heq := hid heq
  clear hb hne hblk heq h
  go_enter Tryd.func14, Tryd.ntmps14
  go_wp2
  go_loop [29] (fun v => ∃ i : Nat, i < k ∧ v = .int .i64 i) (fun v => 18 - (intOf v).toNat)
  case atStart => exact ⟨0, by omega, rfl⟩
  case round =>
    obtain ⟨i, hi, rfl⟩ := hrel
    have hc := hcells.out i (by omega)
    have he := Heq.out (i + 1) (by omega) (by omega)
    have hlt : i < 18 := by omega
    by_cases hk : k = i + 1
    · have e : (k == i + 1) = true := by simpa using hk
      rw [e] at he
      have Hk := hid hk
      clear hk e
      go_wp2
      go_ret
      have := Hk.out
      exact ⟨by simp; omega, hend.out⟩
    · have e : (k == i + 1) = false := by simpa using hk
      rw [e] at he
      have Hk := hid hk
      clear hk e
      go_wp2
      have := Hk.out
      exact ⟨⟨i + 1, by omega, by simp⟩, by simp [intOf]; omega⟩
theorem nNum_any {w : World} {B : BI} {R : List Asn} (h : Sep w (base B :: R)) (hE : B.all) (k : Nat) (h2 : k ≤ 18) :
    Calls Tryd.prog 14 #[errV B k] w fun r w' => r = .returned (.int .i64 k) ∧ Sep w' (base B :: R) := by
  rcases k with _ | k
  · exact (nNum_nil w).mono fun r w' ⟨h1, h2⟩ => ⟨h1, h2 ▸ h⟩
  · exact nNum_some h hE (k + 1) (by omega) h2

/-- A string of bytes. -/
def sv (l : List UInt8) : Value := .string ⟨l.toArray⟩
theorem Rd.conv {w : World} {v : Value} {n c : Nat} {l : List UInt8} (h : Rd w 1 v n c (bv l)) : (convert 30 9 v).run Tryd.prog w = .ok (sv l) w := by
  obtain ⟨A, rfl, _, _, hl, hc⟩ := h
  rw [bv_length, Nat.mul_one] at hl
  subst hl
  rcases A with _ | ad
  · have hl0 : l = [] := by
      rcases Nat.eq_zero_or_pos l.length with h0 | h0
      · exact List.eq_nil_of_length_eq_zero h0
      · obtain ⟨ad, he, _⟩ := hc h0
        cases he
    subst hl0
    exact run_convert_bytes_nil w 30 5 Tryd.underlying30 Tryd.underlying5 0 c 9 Tryd.underlying9
  · have hld : (loadCells ad l.length).run Tryd.prog w = .ok ((l.map fun b => (b.toNat : Int)).map (Value.int .u8)).toArray w := by
      have := run_loadCells_list (P := Tryd.prog) w ad (bv l) (fun j u hu => by
        have hj := (List.getElem?_eq_some_iff.1 hu).1
        rw [bv_length] at hj
        obtain ⟨ad', he, hc⟩ := hc (by omega)
        injection he with he
        subst he
        exact hc j u hu)
      rw [bv_length] at this
      rw [this]
      congr 2
      simp [bv]
    rw [run_convert_bytes_string w 30 9 5 (some ad) l.length c Tryd.underlying30 Tryd.underlying5 Tryd.underlying9, run_bytesToString w ad l.length c _ hld, foldl_push_bytes]
    simp [sv, ByteArray.empty, ByteArray.emptyWithCapacity, Function.comp_def]
    rfl
theorem Sep.own_addr {w : World} {e : TypeId} {size n c : Nat} {A : Option Addr} {xs : List Value} {l : List Asn} (h : Sep w (Own e size (.slice A n c) n xs :: l)) (hn : 0 < n) :
    ∃ g off, A = some ⟨g, off, none⟩ ∧ ∀ j u, xs[j]? = some u → w.cell? ⟨g, off + j, none⟩ = some u := by
  obtain ⟨F, hl, ⟨A', hv, rfl, _⟩ | ⟨g, off, cap, cur, fr, hv, hg, h1, h2, h3, h4, h5, hF⟩⟩ := h.own
  · omega
  · injection hv with e1 _ _
    exact ⟨g, off, e1, fun j u hu => by rw [cell_of_row w g _ cur e fr hg]; exact h5 j u hu⟩
set_option maxHeartbeats 1600000 in
set_option maxRecDepth 100000 in
/-- What Bytes has made is as it was made. -/
theorem nKept_any {w : World} {B : BI} {R : List Asn} {A : Option Addr} {c' : Nat} {v : Value} {n c : Nat} {l : List UInt8} (h : Sep w (base B :: Own 5 1 (.slice A (l.length + 6) c') (l.length + 6) (bv (l ++ marks6)) :: R)) (hr : Rd B.w0 1 v n c (bv l)) (hn : n ≤ 140737488355322) :
    Calls Tryd.prog 15 #[.slice A l.length c', v] w fun r w' => r = .returned (.bool true) ∧ ∃ k, w' = w.drewN k := by
  obtain ⟨A2, rfl⟩ := hr.form
  obtain rfl := hr.blen
  obtain ⟨g, off, rfl, hcell⟩ := h.swap.own_addr (by omega)
  have hle := h.swap.own_le
  have hm : c' ≤ 9223372036854775807 := hle.2
  have hr1 := h.base_rd hr
  have hr2 : Rd w 1 (.slice (some ⟨g, off, none⟩) l.length c') l.length c' (bv l) := by
    have := (Sep.rd h.swap).take (k := l.length) (by omega)
    rw [← bv_take] at this
    simpa using this
  have k1 := fun k => (hr1.drewN k).conv
  have k2 := fun k => (hr2.drewN k).conv
  have hcj : ∀ j b, marks6[j]? = some b → w.cell? ⟨g, off + (l.length + j), none⟩ = some (.int .u8 (b.toNat : Int)) := fun j b hb => hcell _ _ (by
    rw [bv_app, List.getElem?_append_right (by rw [bv_length]; omega), bv_length, Nat.add_sub_cancel_left]
    simp [bv, hb])
  have c0 : w.cell? ⟨g, off + l.length, none⟩ = some (.int .u8 201) := hcj 0 201 rfl
  have c1 : w.cell? ⟨g, off + (l.length + 1), none⟩ = some (.int .u8 202) := hcj 1 202 rfl
  have c2 : w.cell? ⟨g, off + (l.length + 2), none⟩ = some (.int .u8 203) := hcj 2 203 rfl
  have c3 : w.cell? ⟨g, off + (l.length + 3), none⟩ = some (.int .u8 204) := hcj 3 204 rfl
  have c4 : w.cell? ⟨g, off + (l.length + 4), none⟩ = some (.int .u8 205) := hcj 4 205 rfl
  have c5 : w.cell? ⟨g, off + (l.length + 5), none⟩ = some (.int .u8 206) := hcj 5 206 rfl
  have hlt : l.length + 6 ≤ c' := hle.1
  have hdec : decide ((c' : Int) < IntKind.i64.wrap ((l.length : Int) + 6)) = false := by
    rw [IntWalk.i64_in _ (by omega)]; simp; omega
  have hh2 : l.length ≤ c' := by omega
  obtain ⟨s, hs⟩ : ∃ s, sv l = .string s := ⟨_, rfl⟩
  rw [hs] at k1 k2
  clear hcj hcell h hr1 hr2 hle hr hs
  go_enter Tryd.func15, Tryd.ntmps15
  go_wp2
  go_quiet (fail)
  go_wp2
  go_rounds 7
  go_ret
  exact ⟨rfl, _, rfl⟩
end Go.Proofs.YtgegpjkihbhndaaDoor
