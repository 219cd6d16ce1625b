/- What is proved: what the row's list of errors gives: where each lies. Conditions: the list is met. -/
import Derived.Test.YtgegpjkihbhndaaDoorNum
import Derived.Test.YtgegpjkihbhndaaDoorRows
import Derived.LaidLaws
import Derived.ChangeVars
namespace Go.Proofs.YtgegpjkihbhndaaDoor
open Go.RowKit Go.ChangeShapes Go.WideShapes
set_option linter.unusedVariables false

theorem laidVars_mem {P : Program} {w : World} {x : String × DataW Unit} : ∀ {l : List (String × DataW Unit)} {ps : List MemPlace}, DataW.LaidVars P w l ps → x ∈ l →
    ∃ g t cs fuel p, P.globalNamed x.1 = some g ∧ (P.globals[g]?).map (·.type) = some t ∧ w.var? P x.1 = some cs ∧ DataW.trod (fun _ => ()) P w 0 (fun _ => true) false fuel t cs.toList = some (x.2, p) ∧ ∀ m ∈ MemPlace.row ⟨g, 0, none⟩ cs.size ++ p, m ∈ ps
  | [], _, _, hx => by cases hx
  | (n, d) :: r, ps, ⟨g, t, cs, fuel, p, q, h1, h2, h3, h4, h5, h6⟩, hx => by
    subst h6
    rcases List.mem_cons.1 hx with rfl | hx
    · exact ⟨g, t, cs, fuel, p, h1, h2, h3, h4, fun m hm => List.mem_append_left _ hm⟩
    · obtain ⟨g', t', cs', f', p', k1, k2, k3, k4, k5⟩ := laidVars_mem h5 hx
      exact ⟨g', t', cs', f', p', k1, k2, k3, k4, fun m hm => List.mem_append_right _ (k5 m hm)⟩
theorem nameErr : Tryd.prog.typeName? 3 178 = some "*errors.errorString" := by kernel_rfl
theorem cellsErrS : Tryd.prog.cellsOf 202 = 1 := by kernel_rfl
theorem cellsString : Tryd.prog.cellsOf 9 = 1 := by kernel_rfl
theorem starErr : "*" ++ "errors.errorString" = "*errors.errorString" := by decide
theorem rowErr (u : TypeId) (h : Tryd.prog.typeName? 3 u = some "*errors.errorString") : u = 178 :=
  typeName_ptr_named (nm := "errors.errorString") (by rw [starErr]; kernel_rfl) (by kernel_rfl) (by decide) u (by rw [starErr]; exact h)
set_option maxRecDepth 100000 in
/-- An error that is laid. -/
theorem laid_err {W : World} {laid : List (String × DataW Unit)} (h : laidMet Tryd.prog laid W) {n : String} {text : List UInt8} (hx : (n, DataW.iface "*errors.errorString" (.ptr (.agg [.lit (.string text)]))) ∈ laid)
    {g : Nat} (hg : Tryd.prog.globalNamed n = some g) (ht : (Tryd.prog.globals[g]?).map (·.type) = some 26) :
    ∃ (a : Addr) (s : ByteArray) (cs : Array Value) (t : TypeId), W.cell? ⟨g, 0, none⟩ = some (.iface 178 (.pointer (some a))) ∧ W.cell? a = some (.string s) ∧ s.data.toList = text ∧ W.heap[a.block]? = some (.cells cs t (0, 0)) := by
  obtain ⟨ps, hv, hnd, hrows⟩ := h
  obtain ⟨g', t', cs, f', p', k1, k2, k3, k4, k5⟩ := laidVars_mem hv hx
  obtain rfl := Option.some.inj (hg.symm.trans k1)
  obtain rfl := Option.some.inj (ht.symm.trans k2)
  obtain ⟨l⟩ := cs
  have ok : ∀ u v, l = [.iface u v] → Value.okWide Tryd.prog W .any 0 u v := fun u v e => by
    subst e
    exact (hrows g 0 (k5 _ (by simp [MemPlace.row]))).2 u v (by simpa using World.var?_cell hg k3 0)
  obtain ⟨a, s, rfl, hc, hs, hz, rfl⟩ := errorString_of_trod Tryd.underlying26 rowErr Tryd.underlying178 Tryd.underlying202 rfl rfl Tryd.underlying9 cellsErrS cellsString k4 ok
  obtain ⟨c0, t0, hb⟩ := (hrows a.block a.off (k5 _ (by simp [MemPlace.row]))).1
  exact ⟨a, s, c0, t0, by simpa using World.var?_cell hg k3 0, hc, hs, hb⟩
end Go.Proofs.YtgegpjkihbhndaaDoor
