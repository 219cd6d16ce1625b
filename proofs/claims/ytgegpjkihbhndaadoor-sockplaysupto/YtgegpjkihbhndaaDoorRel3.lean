/- What is proved: package sock and its reference of layer 3 answer alike: plain lists, no program. Conditions: none. -/
import Derived.Test.YtgegpjkihbhndaaDoorSock5
namespace Go.Proofs.YtgegpjkihbhndaaDoor
set_option linter.unusedVariables false

/-- A way of the pair, and of its reference. -/
structure RelW (cut : Bool) (room bound : Nat) (s : SWay) (r : RWay) : Prop where
  h1 : r.rd ≤ r.car
  h2 : r.car ≤ r.all.length
  bytes : s.ib ++ s.fl = r.all.drop r.rd
  inbox : s.ib.length = r.car - r.rd
  sh : cut = false → s.sh = r.sh
  gone : cut = true → s.fl = [] ∧ s.en = r.sh
  fits : r.all.length ≤ r.rd + room
  small : r.all.length ≤ bound
structure Rel3 (bound : Nat) (s : SPair) (r : RPair) : Prop where
  room : s.room = r.room
  max : r.room ≤ 65536
  cut : s.cut = r.cut
  a : RelW r.cut r.room bound s.a r.a
  b : RelW r.cut r.room bound s.b r.b

theorem RelW.lens {cut room bound s r} (h : RelW cut room bound s r) : s.ib.length + s.fl.length = r.all.length - r.rd := by
  have := congrArg List.length h.bytes
  rw [List.length_append, List.length_drop] at this
  exact this
theorem RelW.mono {cut room b1 b2 s r} (h : RelW cut room b1 s r) (hb : b1 ≤ b2) : RelW cut room b2 s r :=
  ⟨h.h1, h.h2, h.bytes, h.inbox, h.sh, h.gone, h.fits, Nat.le_trans h.small hb⟩
theorem Rel3.mono {b1 b2 s r} (h : Rel3 b1 s r) (hb : b1 ≤ b2) : Rel3 b2 s r := ⟨h.room, h.max, h.cut, h.a.mono hb, h.b.mono hb⟩
theorem Rel3.sok {bound s r} (h : Rel3 bound s r) : s.ok := by
  have ha := h.a.lens; have hb := h.b.lens
  have := h.a.fits; have := h.b.fits; have := h.room; have := h.max
  refine ⟨by omega, ?_, ?_⟩ <;> unfold SWay.ok <;> omega
theorem Rel3.rok {bound s r} (h : Rel3 bound s r) (hb : bound ≤ 1099511627776) : r.ok :=
  ⟨h.max, ⟨h.a.h1, h.a.h2, h.a.fits, Nat.le_trans h.a.small hb⟩, ⟨h.b.h1, h.b.h2, h.b.fits, Nat.le_trans h.b.small hb⟩⟩

theorem RelW.write {room bound s r} (h : RelW false room bound s r) (l : List UInt8) (k : Nat) (hk : k ≤ room - (r.all.length - r.rd)) (hm : room ≤ 65536) :
    RelW false room (bound + 65536) { s with fl := s.fl ++ l.take k } { r with all := r.all ++ l.take k } := by
  have h1 := h.h1; have h2 := h.h2; have h3 := h.fits; have h4 := h.small
  have hl : (l.take k).length ≤ k := by rw [List.length_take]; exact Nat.min_le_left _ _
  refine ⟨h1, ?_, ?_, h.inbox, h.sh, fun e => (by cases e), ?_, ?_⟩
  · simp only [List.length_append]; omega
  · dsimp only
    rw [← List.append_assoc, h.bytes, List.drop_append_of_le_length (by omega)]
  · simp only [List.length_append]; omega
  · simp only [List.length_append]; omega
theorem RelW.carry {room bound s r} (h : RelW false room bound s r) (k : Nat) (hk : k ≤ s.fl.length) :
    RelW false room bound { s with fl := s.fl.drop k, ib := s.ib ++ s.fl.take k } { r with car := r.car + k } := by
  have h1 := h.h1; have h2 := h.h2; have h3 := h.lens; have h4 := h.inbox
  refine ⟨by dsimp only; omega, by dsimp only; omega, ?_, ?_, h.sh, fun e => (by cases e), h.fits, h.small⟩
  · dsimp only
    rw [List.append_assoc, List.take_append_drop, h.bytes]
  · simp only [List.length_append, List.length_take]; omega
theorem RelW.read {cut room bound s r} (h : RelW cut room bound s r) (k : Nat) (hk : k ≤ s.ib.length) :
    RelW cut room bound { s with ib := s.ib.drop k } { r with rd := r.rd + k } := by
  have h1 := h.h1; have h2 := h.h2; have h4 := h.inbox; have h5 := h.fits
  refine ⟨by dsimp only; omega, h2, ?_, ?_, h.sh, h.gone, by dsimp only; omega, h.small⟩
  · dsimp only
    rw [← List.drop_append_of_le_length hk, h.bytes, List.drop_drop]
  · simp only [List.length_drop]; omega
theorem RelW.taken {cut room bound s r} (h : RelW cut room bound s r) (k : Nat) (hk : k ≤ s.ib.length) : s.ib.take k = (r.all.drop r.rd).take k := by
  rw [← h.bytes, List.take_append_of_le_length hk]
theorem RelW.shut {room bound s r} (h : RelW false room bound s r) : RelW false room bound { s with sh := true } { r with sh := true } :=
  ⟨h.h1, h.h2, h.bytes, h.inbox, fun _ => rfl, fun e => (by cases e), h.fits, h.small⟩
/-- What the law does to a way of the reference that is cut. -/
def RWay.gone (r : RWay) : RWay := if r.car < r.all.length then { r with sh := false, all := r.all.take r.car } else r
def rCut (r : RPair) : RPair := if r.cut then r else { r with cut := true, a := r.a.gone, b := r.b.gone }
theorem RelW.gone' {room bound s r} (h : RelW false room bound s r) : RelW true room bound s.gone r.gone := by
  have h1 := h.h1; have h2 := h.h2; have h3 := h.lens; have h4 := h.inbox; have h5 := h.fits; have h6 := h.small
  have hsh := h.sh rfl
  have hib : s.ib = (r.all.drop r.rd).take s.ib.length := by
    have := h.taken s.ib.length (Nat.le_refl _)
    rwa [List.take_length] at this
  by_cases hc : r.car < r.all.length
  · have hne : s.fl ≠ [] := fun e => by rw [e] at h3; simp at h3; omega
    have hemp : s.fl.isEmpty = false := by simpa using hne
    simp only [RWay.gone, if_pos hc, SWay.gone]
    refine ⟨h1, ?_, ?_, h4, fun e => (by cases e), fun _ => ⟨rfl, by simp [hemp]⟩, ?_, ?_⟩
    · simp only [List.length_take]; omega
    · dsimp only
      rw [List.append_nil, List.drop_take, ← h4]
      exact hib
    · simp only [List.length_take]; omega
    · simp only [List.length_take]; omega
  · have he : s.fl = [] := List.eq_nil_of_length_eq_zero (by omega)
    simp only [RWay.gone, if_neg hc, SWay.gone]
    refine ⟨h1, h2, ?_, h4, fun e => (by cases e), fun _ => ⟨rfl, by simp [he, hsh]⟩, h5, h6⟩
    dsimp only
    rw [← h.bytes, he]

variable {bound : Nat} {s : SPair} {r : RPair}
theorem Rel3.write (h : Rel3 bound s r) (e : Int) (l : List UInt8) : (s.write e l).2 = (r.write e l).2 ∧ Rel3 (bound + 65536) (s.write e l).1 (r.write e l).1 := by
  have hk : ∀ {x : SWay} {y : RWay}, RelW r.cut r.room bound x y → s.room - x.fl.length - x.ib.length = r.room - (y.all.length - y.rd) := fun hw => by
    have := hw.lens; have := h.room; omega
  have ka := hk h.a; have kb := hk h.b
  clear hk
  obtain ⟨_, _, _, ma, mb⟩ := h.mono (Nat.le_add_right bound 65536)
  obtain ⟨room, a, b, cut⟩ := s
  obtain ⟨room', a', b', cut'⟩ := r
  obtain ⟨e1, e2, e3, ha, hb⟩ := h
  dsimp only at e1 e2 e3 ha hb ka kb ma mb
  subst e1; subst e3
  unfold SPair.write RPair.write
  rcases end_cases e with rfl | rfl | ⟨h0, h1, h2, h3⟩
  · rw [if_pos rfl, if_pos rfl]
    dsimp only
    rw [ka]
    cases cut
    · rw [ha.sh rfl]
      by_cases hs : a'.sh = true
      · rw [hs]; exact ⟨rfl, rfl, e2, rfl, ma, mb⟩
      · have hs : a'.sh = false := by simpa using hs
        have hw := ha.write l (min (room - (a'.all.length - a'.rd)) l.length) (Nat.min_le_left _ _) e2
        rw [hs]
        rw [ha.sh rfl, hs] at hw
        exact ⟨rfl, rfl, e2, rfl, hw, mb⟩
    · exact ⟨rfl, rfl, e2, rfl, ma, mb⟩
  · rw [if_neg (by decide : ¬ (1 : Int) = 0), if_neg (by decide : ¬ (1 : Int) = 0), if_pos rfl, if_pos rfl]
    dsimp only
    rw [kb]
    cases cut
    · rw [hb.sh rfl]
      by_cases hs : b'.sh = true
      · rw [hs]; exact ⟨rfl, rfl, e2, rfl, ma, mb⟩
      · have hs : b'.sh = false := by simpa using hs
        have hw := hb.write l (min (room - (b'.all.length - b'.rd)) l.length) (Nat.min_le_left _ _) e2
        rw [hs]
        rw [hb.sh rfl, hs] at hw
        exact ⟨rfl, rfl, e2, rfl, ma, hw⟩
    · exact ⟨rfl, rfl, e2, rfl, ma, mb⟩
  · rw [if_neg h0, if_neg h1, if_neg h0, if_neg h1]
    exact ⟨rfl, rfl, e2, rfl, ma, mb⟩
theorem Rel3.shut (h : Rel3 bound s r) (e : Int) : (s.shut e).2 = (r.shut e).2 ∧ Rel3 bound (s.shut e).1 (r.shut e).1 := by
  obtain ⟨room, a, b, cut⟩ := s
  obtain ⟨room', a', b', cut'⟩ := r
  obtain ⟨e1, e2, e3, ha, hb⟩ := h
  dsimp only at e1 e2 e3 ha hb
  subst e1; subst e3
  unfold SPair.shut RPair.shut
  rcases end_cases e with rfl | rfl | ⟨h0, h1, h2, h3⟩
  · cases cut
    · exact ⟨rfl, rfl, e2, rfl, ha.shut, hb⟩
    · exact ⟨rfl, rfl, e2, rfl, ha, hb⟩
  · cases cut
    · exact ⟨rfl, rfl, e2, rfl, ha, hb.shut⟩
    · exact ⟨rfl, rfl, e2, rfl, ha, hb⟩
  · rw [if_neg h0, if_neg h1, if_neg h0, if_neg h1]
    exact ⟨rfl, rfl, e2, rfl, ha, hb⟩
theorem Rel3.carry (h : Rel3 bound s r) (e n : Int) : (s.carry e n).2 = (r.carry e n).2 ∧ Rel3 bound (s.carry e n).1 (r.carry e n).1 := by
  obtain ⟨room, a, b, cut⟩ := s
  obtain ⟨room', a', b', cut'⟩ := r
  obtain ⟨e1, e2, e3, ha, hb⟩ := h
  dsimp only at e1 e2 e3 ha hb
  subst e1; subst e3
  have hla : a.fl.length = a'.all.length - a'.car := by have := ha.lens; have := ha.inbox; have := ha.h1; have := ha.h2; omega
  have hlb : b.fl.length = b'.all.length - b'.car := by have := hb.lens; have := hb.inbox; have := hb.h1; have := hb.h2; omega
  unfold SPair.carry RPair.carry
  rcases end_cases e with rfl | rfl | ⟨h0, h1, h2, h3⟩
  · rw [if_pos rfl, if_pos rfl]
    by_cases hn : n < 0
    · rw [if_pos hn, if_pos hn]; exact ⟨rfl, rfl, e2, rfl, ha, hb⟩
    · rw [if_neg hn, if_neg hn]
      cases cut
      · dsimp only
        rw [← hla]
        exact ⟨rfl, rfl, e2, rfl, ha.carry _ (Nat.min_le_right _ _), hb⟩
      · exact ⟨rfl, rfl, e2, rfl, ha, hb⟩
  · rw [if_neg (by decide : ¬ (1 : Int) = 0), if_neg (by decide : ¬ (1 : Int) = 0), if_pos rfl, if_pos rfl]
    by_cases hn : n < 0
    · rw [if_pos hn, if_pos hn]; exact ⟨rfl, rfl, e2, rfl, ha, hb⟩
    · rw [if_neg hn, if_neg hn]
      cases cut
      · dsimp only
        rw [← hlb]
        exact ⟨rfl, rfl, e2, rfl, ha, hb.carry _ (Nat.min_le_right _ _)⟩
      · exact ⟨rfl, rfl, e2, rfl, ha, hb⟩
  · rw [if_neg h0, if_neg h1, if_neg h0, if_neg h1]
    exact ⟨rfl, rfl, e2, rfl, ha, hb⟩
theorem Rel3.read (h : Rel3 bound s r) (e n : Int) : (s.read e n).2 = (r.read e n).2 ∧ Rel3 bound (s.read e n).1 (r.read e n).1 := by
  obtain ⟨room, a, b, cut⟩ := s
  obtain ⟨room', a', b', cut'⟩ := r
  obtain ⟨e1, e2, e3, ha, hb⟩ := h
  dsimp only at e1 e2 e3 ha hb
  subst e1; subst e3
  have hea : a.ib.isEmpty = (a'.rd == a'.car) := by
    have := ha.inbox; have := ha.h1
    rw [Bool.eq_iff_iff, List.isEmpty_iff_length_eq_zero, beq_iff_eq]; omega
  have heb : b.ib.isEmpty = (b'.rd == b'.car) := by
    have := hb.inbox; have := hb.h1
    rw [Bool.eq_iff_iff, List.isEmpty_iff_length_eq_zero, beq_iff_eq]; omega
  unfold SPair.read RPair.read
  rcases end_cases e with rfl | rfl | ⟨h0, h1, h2, h3⟩
  · rw [if_pos rfl, if_pos rfl]
    by_cases hn : n < 0
    · rw [if_pos hn, if_pos hn]; exact ⟨rfl, rfl, e2, rfl, ha, hb⟩
    · rw [if_neg hn, if_neg hn]
      dsimp only
      rw [heb]
      by_cases hz : (cut && b'.rd == b'.car) = true
      · rw [if_pos hz, if_pos hz]; exact ⟨rfl, rfl, e2, rfl, ha, hb⟩
      · rw [if_neg hz, if_neg hz, ← hb.inbox, ← hb.taken _ (Nat.min_le_right _ _)]
        exact ⟨rfl, rfl, e2, rfl, ha, hb.read _ (Nat.min_le_right _ _)⟩
  · rw [if_neg (by decide : ¬ (1 : Int) = 0), if_neg (by decide : ¬ (1 : Int) = 0), if_pos rfl, if_pos rfl]
    by_cases hn : n < 0
    · rw [if_pos hn, if_pos hn]; exact ⟨rfl, rfl, e2, rfl, ha, hb⟩
    · rw [if_neg hn, if_neg hn]
      dsimp only
      rw [hea]
      by_cases hz : (cut && a'.rd == a'.car) = true
      · rw [if_pos hz, if_pos hz]; exact ⟨rfl, rfl, e2, rfl, ha, hb⟩
      · rw [if_neg hz, if_neg hz, ← ha.inbox, ← ha.taken _ (Nat.min_le_right _ _)]
        exact ⟨rfl, rfl, e2, rfl, ha.read _ (Nat.min_le_right _ _), hb⟩
  · rw [if_neg h0, if_neg h1, if_neg h0, if_neg h1]
    exact ⟨rfl, rfl, e2, rfl, ha, hb⟩
theorem Rel3.cut' (h : Rel3 bound s r) : Rel3 bound (sCut s) (rCut r) := by
  obtain ⟨room, a, b, cut⟩ := s
  obtain ⟨room', a', b', cut'⟩ := r
  obtain ⟨e1, e2, e3, ha, hb⟩ := h
  dsimp only at e1 e2 e3 ha hb
  subst e1; subst e3
  cases cut
  · exact ⟨rfl, e2, rfl, ha.gone', hb.gone'⟩
  · exact ⟨rfl, e2, rfl, ha, hb⟩
theorem Rel3.roomEq (h : Rel3 bound s r) (e : Int) : s.roomOf e = r.freeOf e := by
  obtain ⟨room, a, b, cut⟩ := s
  obtain ⟨room', a', b', cut'⟩ := r
  obtain ⟨e1, e2, e3, ha, hb⟩ := h
  dsimp only at e1 e2 e3 ha hb
  subst e1; subst e3
  have hla := ha.lens; have hlb := hb.lens
  unfold SPair.roomOf RPair.freeOf
  cases cut
  · rw [ha.sh rfl, hb.sh rfl]
    have e1 : room - a.fl.length - a.ib.length = room - (a'.all.length - a'.rd) := by omega
    have e2 : room - b.fl.length - b.ib.length = room - (b'.all.length - b'.rd) := by omega
    dsimp only
    rw [e1, e2]
  · rfl
theorem Rel3.flightEq (h : Rel3 bound s r) (e : Int) : s.flightOf e = r.flightOf e := by
  obtain ⟨room, a, b, cut⟩ := s
  obtain ⟨room', a', b', cut'⟩ := r
  obtain ⟨e1, e2, e3, ha, hb⟩ := h
  dsimp only at e1 e2 e3 ha hb
  subst e1; subst e3
  have hla : a.fl.length = a'.all.length - a'.car := by have := ha.lens; have := ha.inbox; have := ha.h1; have := ha.h2; omega
  have hlb : b.fl.length = b'.all.length - b'.car := by have := hb.lens; have := hb.inbox; have := hb.h1; have := hb.h2; omega
  unfold SPair.flightOf RPair.flightOf
  cases cut
  · dsimp only
    rw [hla, hlb]
    rfl
  · have g1 := (ha.gone rfl).1; have g2 := (hb.gone rfl).1
    dsimp only
    rw [g1, g2]
    rfl
theorem Rel3.inboxEq (h : Rel3 bound s r) (e : Int) : s.inboxOf e = r.inboxOf e := by
  unfold SPair.inboxOf RPair.inboxOf
  rw [h.a.inbox, h.b.inbox]
theorem RelW.ended {cut room bound s r} (h : RelW cut room bound s r) : (if cut then s.en && s.ib.isEmpty else s.sh && s.fl.isEmpty && s.ib.isEmpty) = (r.sh && r.rd == r.all.length) := by
  have h1 := h.h1; have h2 := h.h2; have h3 := h.lens; have h4 := h.inbox
  cases cut
  · have : (s.fl.isEmpty && s.ib.isEmpty) = (r.rd == r.all.length) := by
      rw [Bool.eq_iff_iff, Bool.and_eq_true, List.isEmpty_iff_length_eq_zero, List.isEmpty_iff_length_eq_zero, beq_iff_eq]; omega
    rw [if_neg (by decide), h.sh rfl, Bool.and_assoc, this]
  · obtain ⟨g1, g2⟩ := h.gone rfl
    have : s.ib.isEmpty = (r.rd == r.all.length) := by
      rw [g1] at h3
      simp only [List.length_nil] at h3
      rw [Bool.eq_iff_iff, List.isEmpty_iff_length_eq_zero, beq_iff_eq]; omega
    rw [if_pos rfl, g2, this]
theorem Rel3.endedEq (h : Rel3 bound s r) (e : Int) : s.endedOf e = r.endedOf e := by
  unfold SPair.endedOf RPair.endedOf
  rw [h.cut, h.a.ended, h.b.ended]
theorem Rel3.start (room : Nat) (h : room ≤ 65536) : Rel3 0 ⟨room, ⟨[], [], false, false⟩, ⟨[], [], false, false⟩, false⟩ ⟨room, ⟨[], 0, 0, false⟩, ⟨[], 0, 0, false⟩, false⟩ :=
  ⟨rfl, h, rfl, ⟨Nat.le_refl _, Nat.le_refl _, rfl, rfl, fun _ => rfl, fun e => (by cases e), Nat.zero_le _, Nat.le_refl _⟩, ⟨Nat.le_refl _, Nat.le_refl _, rfl, rfl, fun _ => rfl, fun e => (by cases e), Nat.zero_le _, Nat.le_refl _⟩⟩
end Go.Proofs.YtgegpjkihbhndaaDoor
