-- A row of the call's own, told by its elements' cells, ahead of a sort and behind it (no program in sight beside the words).
import Derived.Test.YtjoemkmckabpjaaWWords
import Derived.Test.YtjoemkmckabpjaaWLast
import Derived.Test.YtjoemkmckabpjaaWMore
import Derived.Test.YtjoemkmckabpjaaTbl
import Derived.Shelf.GgSortFunc.InsertionK
namespace Go.Proofs.Ytjoemkmckabpjaa.Pr
open Go.RowKit Go.Proofs.YtjoemkmckabpjaaW.PrintWords Go.Proofs.YtjoemkmckabpjaaW.PrintLast Go.Proofs.YtjoemkmckabpjaaW.PrintMore
open Go.Sort
/-- A kind whose values are their cells alone. -/
structure Flat {α : Type} (d : Kd α) (enc : α → List Value) : Prop where
  opens : ∀ {w base ok x cs}, d.M w base ok x cs → cs = enc x
  shuts : ∀ w base ok x, d.M w base ok x (enc x)
  len : ∀ x, (enc x).length = d.sz
section
variable {α : Type} [Inhabited α] {d : Kd α} {enc : α → List Value} {w : World} {e base : Nat} {ok : Nat → Prop} {g off n cap : Nat} {l : List α}
omit [Inhabited α] in
theorem flat_len (enc : α → List Value) (k : Nat) (hk : ∀ x, (enc x).length = k) (l : List α) : (l.flatMap enc).length = l.length * k := by
  induction l with
  | nil => simp
  | cons x l ih => rw [List.flatMap_cons, List.length_append, hk, ih, List.length_cons, Nat.add_mul, Nat.one_mul, Nat.add_comm]
theorem flat_toList (enc : α → List Value) (k : Nat) (hk : ∀ x, (enc x).length = k) (l : List α) : (flatK enc k l.toArray).toList = l.flatMap enc := by
  apply List.ext_getElem?
  intro i
  have hlen : (l.flatMap enc).length = l.length * k := flat_len enc k hk l
  by_cases hi : i < l.length * k
  · have hk0 : 0 < k := by rcases Nat.eq_zero_or_pos k with h | h; (subst h; simp at hi); exact h
    have h1 := get_flatK enc k l.toArray i (by simpa using hi)
    rw [Array.getElem?_toList, getElem?_pos _ i (by simpa using hi)]
    rw [getElem!_pos _ i (by simpa using hi)] at h1
    rw [h1]
    clear h1 hlen
    induction l generalizing i with
    | nil => simp at hi
    | cons x l ih =>
      rw [List.flatMap_cons]
      by_cases hx : i < k
      · rw [List.getElem?_append_left (by rw [hk]; exact hx), Nat.div_eq_of_lt hx, Nat.mod_eq_of_lt hx]
        simp [hk, hx]
      · rw [List.getElem?_append_right (by rw [hk]; omega), hk]
        have hi2 : i - k < l.length * k := by simp [Nat.add_mul] at hi; omega
        have e1 : i / k = (i - k) / k + 1 := by
          have := Nat.add_div_right (i - k) hk0
          rw [show i - k + k = i by omega] at this
          exact this
        have e2 : i % k = (i - k) % k := by
          have := Nat.add_mod_right (i - k) k
          rw [show i - k + k = i by omega] at this
          exact this
        rw [← ih (i - k) hi2, e1, e2]
        simp
  · rw [Array.getElem?_toList, getElem?_neg _ i (by simpa using hi), List.getElem?_eq_none (by omega)]
omit [Inhabited α] in
theorem reps_flat (hF : Flat d enc) {inner : List Value} (h : Reps (d.M w base ok) d.sz l inner) : inner = l.flatMap enc := by
  induction l generalizing inner with
  | nil =>
    have := h.1
    simp at this
    simp [this]
  | cons x l ih =>
    have h0 := hF.opens (h.2 0 x rfl)
    simp only [Nat.zero_mul, List.drop_zero] at h0
    have ht : Reps (d.M w base ok) d.sz l (inner.drop d.sz) := ⟨by rw [List.length_drop, h.1]; simp [Nat.add_mul], fun j p hp => by
      have := h.2 (j + 1) p (by simpa using hp)
      rw [List.drop_drop, show d.sz + j * d.sz = (j + 1) * d.sz by rw [Nat.add_mul]; omega]
      exact this⟩
    rw [List.flatMap_cons, ← ih ht, ← h0, List.take_append_drop]
omit [Inhabited α] in
theorem flat_reps (hF : Flat d enc) (w : World) (base : Nat) (ok : Nat → Prop) (l : List α) : Reps (d.M w base ok) d.sz l (l.flatMap enc) := by
  induction l with
  | nil => exact Reps.none _ _
  | cons x l ih =>
    refine ⟨?_, fun j p hp => ?_⟩
    · rw [List.flatMap_cons, List.length_append, hF.len, ih.1]
      simp [Nat.add_mul]
      omega
    · rw [List.flatMap_cons]
      cases j with
      | zero =>
        simp at hp
        subst hp
        rw [Nat.zero_mul, List.drop_zero, List.take_append_of_le_length (by rw [hF.len]; exact Nat.le_refl _), List.take_of_length_le (by rw [hF.len]; exact Nat.le_refl _)]
        exact hF.shuts _ _ _ _
      | succ j =>
        rw [show (j + 1) * d.sz = (enc x).length + j * d.sz by rw [hF.len, Nat.add_mul]; omega, ← List.drop_drop, List.drop_left' rfl]
        exact ih.2 j p (by simpa using hp)
theorem holds_of_R (hF : Flat d enc) (hR : Kd.R d e w base ok (.slice (some ⟨g, off, none⟩) n cap) l) : off = 0 ∧ n = l.length ∧ base ≤ g ∧ HoldsK enc d.sz w g 0 l.toArray ∧ g < w.heap.size ∧ cap ≤ maxLen := by
  obtain ⟨h0, inner, ⟨hl, ho⟩, hr⟩ := hR
  rcases ho with ⟨ho, _⟩ | ⟨g', cap', cur, hv, hg, hb, hle, hmax, hsz, htake⟩
  · cases ho
  · simp only [Value.slice.injEq, Option.some.injEq, Addr.mk.injEq] at hv
    obtain ⟨⟨rfl, rfl, _⟩, rfl, rfl⟩ := hv
    refine ⟨rfl, rfl, hg, ?_, blk_lt hb, hmax⟩
    have hin := reps_flat hF hr
    intro j hj
    rw [size_flatK] at hj
    have hj' : j < l.length * d.sz := by simpa using hj
    rw [Nat.zero_add]
    refine ⟨?_, blk_frozen hb j⟩
    rw [blk_cell hb]
    have e1 : cur[j]? = inner[j]? := by
      rw [← htake, List.getElem?_take_of_lt hj', Array.getElem?_toList]
    rw [e1, hin, ← flat_toList enc d.sz hF.len, Array.getElem?_toList, getElem?_pos _ j (by rw [size_flatK]; exact hj), getElem!_pos _ j (by rw [size_flatK]; exact hj)]
    rfl
theorem sorted_block {w : World} {e : Nat} {cur : Array Value} (hb : w.heap[g]? = some (.cells cur e (0, 0))) (k m : Nat) (dl : List α) (os : Array Obj) :
    (sortWorldK enc k w g 0 m dl.toArray os).heap[g]? = some (.cells (putCells id 0 (flatK enc k dl.toArray) cur) e (0, 0)) := by
  unfold sortWorldK
  have h1 : g < (putRowK enc k (Sort.ahead w m) g 0 dl.toArray).heap.size := by
    show g < (putRow id (Sort.ahead w m) g 0 _).heap.size
    rw [size_putRow]
    exact blk_lt hb
  rw [heap_grow_old _ _ h1]
  show ((Sort.ahead w m).heap.modify g _)[g]? = _
  rw [Array.getElem?_modify]
  show (if g = g then (w.heap[g]?).map _ else _) = _
  rw [if_pos rfl, hb]
  rfl
theorem sorted_other (enc : α → List Value) (w : World) (g k m : Nat) (dl : List α) (os : Array Obj) (i : Nat) (hi : i < w.heap.size) (hne : i ≠ g) : (sortWorldK enc k w g 0 m dl.toArray os).heap[i]? = w.heap[i]? := by
  unfold sortWorldK
  have h1 : i < (putRowK enc k (Sort.ahead w m) g 0 dl.toArray).heap.size := by
    show i < (putRow id (Sort.ahead w m) g 0 _).heap.size
    rw [size_putRow]
    exact hi
  rw [heap_grow_old _ _ h1]
  show ((Sort.ahead w m).heap.modify g _)[i]? = _
  rw [Array.getElem?_modify, if_neg (by omega)]
  rfl
theorem sorted_below (enc : α → List Value) (w : World) (g k m : Nat) (dl : List α) (os : Array Obj) {B : Nat} (hB : B ≤ w.heap.size) (hg : B ≤ g) : Below B w (sortWorldK enc k w g 0 m dl.toArray os) := by
  refine ⟨rfl, rfl, rfl, ?_, fun i hi => sorted_other enc w g k m dl os i (by omega) (by omega)⟩
  unfold sortWorldK
  rw [size_grow]
  show _ ≤ (putRow id (Sort.ahead w m) g 0 _).heap.size + _
  rw [size_putRow]
  exact Nat.le_add_right _ _
theorem R_of_sorted (hF : Flat d enc) (hR : Kd.R d e w base ok (.slice (some ⟨g, 0, none⟩) n cap) l) (m : Nat) (dl : List α) (os : Array Obj) (hlen : dl.length = l.length) : Kd.R d e (sortWorldK enc d.sz w g 0 m dl.toArray os) base ok (.slice (some ⟨g, 0, none⟩) n cap) dl := by
  obtain ⟨h0, inner, ⟨hl, ho⟩, hr⟩ := hR
  rcases ho with ⟨ho, _⟩ | ⟨g', cap', cur, hv, hg, hb, hle, hmax, hsz, htake⟩
  · cases ho
  · simp only [Value.slice.injEq, Option.some.injEq, Addr.mk.injEq] at hv
    obtain ⟨⟨rfl, _, _⟩, rfl, rfl⟩ := hv
    refine ⟨h0, dl.flatMap enc, ⟨?_, .inr ⟨g, cap, putCells id 0 (flatK enc d.sz dl.toArray) cur, by rw [hlen], hg, sorted_block hb d.sz m dl os, by omega, hmax, ?_, ?_⟩⟩, flat_reps hF _ _ _ _⟩
    · exact (flat_reps hF w base ok dl).1
    · unfold putCells
      simpa using hsz
    · rw [← flat_toList enc d.sz hF.len]
      apply List.ext_getElem?
      intro i
      have hle2 : l.length * d.sz ≤ cap * d.sz := Nat.mul_le_mul_right _ hle
      by_cases hi : i < l.length * d.sz
      · rw [List.getElem?_take_of_lt (by rw [hlen]; exact hi), Array.getElem?_toList, Array.getElem?_toList]
        unfold putCells
        rw [Array.getElem?_mapIdx, getElem?_pos cur i (by omega), getElem?_pos _ i (by rw [size_flatK]; simpa [hlen] using hi)]
        simp only [Option.map_some]
        rw [if_pos ⟨Nat.zero_le _, by rw [size_flatK]; simpa [hlen] using hi⟩, Nat.sub_zero, getElem!_pos _ i (by rw [size_flatK]; simpa [hlen] using hi)]
        rfl
      · rw [List.getElem?_eq_none (by rw [List.length_take]; rw [hlen]; omega), Array.getElem?_toList, getElem?_neg _ i (by rw [size_flatK]; simpa [hlen] using hi)]
end
end Go.Proofs.Ytjoemkmckabpjaa.Pr
