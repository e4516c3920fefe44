-- The table of places of a pile, and what a heap does to a list: plain Lean.
import Derived.Test.YtjoemkmckabpjaaTmPop
namespace Go.Proofs.Ytjoemkmckabpjaa.Pr
open Go.RowKit
set_option linter.unusedVariables false
set_option linter.unusedSimpArgs false
section
variable {κ : Type} [DecidableEq κ]
theorem tget_cons (k : κ) (u : Value) (T : List (κ × Value)) (y : κ) : tget ((k, u) :: T) y = if k = y then some u else tget T y := by
  unfold tget
  rw [List.find?_cons]
  by_cases h : k = y
  · simp [h]
  · simp [h]
theorem tget_map_ne (T : List (κ × Value)) (x y : κ) (v : Value) (h : x ≠ y) : tget (T.map fun z => if z.1 = x then (x, v) else z) y = tget T y := by
  induction T with
  | nil => rfl
  | cons a T ih =>
    obtain ⟨k, u⟩ := a
    rw [List.map_cons, tget_cons]
    by_cases hk : k = x
    · subst hk
      rw [if_pos rfl, tget_cons, if_neg h, if_neg h, ih]
    · rw [if_neg hk, tget_cons, ih]
theorem tget_map_any (T : List (κ × Value)) (x : κ) (v : Value) (h : T.any (fun y => decide (y.1 = x)) = true) : tget (T.map fun z => if z.1 = x then (x, v) else z) x = some v := by
  induction T with
  | nil => simp at h
  | cons a T ih =>
    obtain ⟨k, u⟩ := a
    rw [List.map_cons]
    by_cases hk : k = x
    · subst hk
      rw [if_pos rfl, tget_cons, if_pos rfl]
    · rw [if_neg hk, tget_cons, if_neg hk]
      rw [List.any_cons, Bool.or_eq_true] at h
      rcases h with h | h
      · simp [hk] at h
      · exact ih h
theorem tget_append (T : List (κ × Value)) (x : κ) (v : Value) (y : κ) (h : T.any (fun y => decide (y.1 = x)) = false) : tget (T ++ [(x, v)]) y = if x = y then some v else tget T y := by
  induction T with
  | nil => rw [List.nil_append, tget_cons]
  | cons a T ih =>
    obtain ⟨k, u⟩ := a
    rw [List.any_cons, Bool.or_eq_false_iff] at h
    have hk : k ≠ x := by simpa using h.1
    rw [List.cons_append, tget_cons, tget_cons, ih h.2]
    by_cases h1 : k = y
    · subst h1
      rw [if_pos rfl, if_neg (Ne.symm hk), if_pos rfl]
    · rw [if_neg h1, if_neg h1]
theorem tget_tput (T : List (κ × Value)) (x : κ) (v : Value) (y : κ) : tget (tput T x v) y = if x = y then some v else tget T y := by
  unfold tput
  by_cases h : T.any (fun y => decide (y.1 = x)) = true
  · rw [if_pos h]
    by_cases hx : x = y
    · subst hx
      rw [if_pos rfl, tget_map_any T x v h]
    · rw [if_neg hx, tget_map_ne T x y v hx]
  · rw [if_neg h]
    exact tget_append T x v y (Bool.eq_false_iff.mpr h)
theorem tget_tdel (T : List (κ × Value)) (x y : κ) : tget (tdel T x) y = if x = y then none else tget T y := by
  unfold tdel
  induction T with
  | nil => unfold tget; simp
  | cons a T ih =>
    obtain ⟨k, u⟩ := a
    rw [List.filter_cons]
    by_cases hk : k = x
    · subst hk
      simp only [decide_true, Bool.not_true, Bool.false_eq_true, if_false]
      rw [ih, tget_cons]
      split <;> rfl
    · simp only [hk, decide_false, Bool.not_false, if_true]
      rw [tget_cons, ih, tget_cons]
      by_cases h1 : k = y
      · subst h1
        rw [if_pos rfl, if_neg (Ne.symm hk)]
        simp
      · rw [if_neg h1, if_neg h1]
theorem tput_len_has (T : List (κ × Value)) (x : κ) (v : Value) (h : (tget T x).isSome = true) : (tput T x v).length = T.length := by
  unfold tput
  rw [if_pos ?_, List.length_map]
  induction T with
  | nil => simp [tget] at h
  | cons a T ih =>
    obtain ⟨k, u⟩ := a
    rw [tget_cons] at h
    rw [List.any_cons]
    by_cases hk : k = x
    · simp [hk]
    · rw [if_neg hk] at h
      rw [ih h, Bool.or_true]
theorem tdel_len (T : List (κ × Value)) (x : κ) : (tdel T x).length ≤ T.length := List.length_filter_le ..
theorem tdel_len_has (T : List (κ × Value)) (x : κ) (h : (tget T x).isSome = true) : (tdel T x).length + 1 ≤ T.length := by
  induction T with
  | nil => simp [tget] at h
  | cons a T ih =>
    obtain ⟨k, u⟩ := a
    unfold tdel
    rw [List.filter_cons]
    by_cases hk : k = x
    · subst hk
      simp only [decide_true, Bool.not_true, Bool.false_eq_true, if_false, List.length_cons]
      have := tdel_len T k
      unfold tdel at this
      omega
    · rw [tget_cons, if_neg hk] at h
      have := ih h
      unfold tdel at this
      simp only [hk, decide_false, Bool.not_false, if_true, List.length_cons]
      omega
end
/-- Where each kind stands. -/
structure Plc (ts : List Tm) (T : List (Int × Value)) : Prop where
  inj : ∀ i j, i < ts.length → j < ts.length → ts[i]!.f1 = ts[j]!.f1 → i = j
  ok : ∀ t ∈ ts, okI t.f1
  get : ∀ i, i < ts.length → tget T ts[i]!.f1 = some (.int .i64 i)
  none : ∀ k, (∀ t ∈ ts, t.f1 ≠ k) → tget T k = none
  len : T.length ≤ ts.length
theorem bang_mem {ts : List Tm} {i : Nat} (h : i < ts.length) : ts[i]! ∈ ts := by rw [bang_get h]; exact List.getElem_mem h
theorem mem_bang {ts : List Tm} {t : Tm} (h : t ∈ ts) : ∃ i, i < ts.length ∧ ts[i]! = t := by
  obtain ⟨i, hi, rfl⟩ := List.mem_iff_getElem.mp h
  exact ⟨i, hi, bang_get hi⟩
theorem set_bang (ts : List Tm) (i k : Nat) (x : Tm) (hk : k < ts.length) : (ts.set i x)[k]! = if i = k then x else ts[k]! := by
  rw [bang_get (by rw [List.length_set]; exact hk), List.getElem_set]
  split
  · rfl
  · rw [bang_get hk]
theorem swapT_bang {ts : List Tm} {i j k : Nat} (hi : i < ts.length) (hj : j < ts.length) (hk : k < ts.length) : (swapT ts i j)[k]! = if k = j then ts[i]! else if k = i then ts[j]! else ts[k]! := by
  unfold swapT
  rw [set_bang _ _ _ _ (by rw [List.length_set]; exact hk), set_bang _ _ _ _ hk]
  by_cases h1 : j = k
  · rw [if_pos h1, if_pos h1.symm]
  · rw [if_neg h1, if_neg (Ne.symm h1)]
    by_cases h2 : i = k
    · rw [if_pos h2, if_pos h2.symm]
    · rw [if_neg h2, if_neg (Ne.symm h2)]
theorem swapT_mem {ts : List Tm} {i j : Nat} (hi : i < ts.length) (hj : j < ts.length) (t : Tm) : t ∈ swapT ts i j ↔ t ∈ ts := by
  constructor
  · exact fun h => swapT_all (Q := fun t => t ∈ ts) (fun _ h => h) hi hj t h
  · intro h
    obtain ⟨k, hk, rfl⟩ := mem_bang h
    by_cases h1 : k = i
    · subst h1
      have := bang_mem (ts := swapT ts k j) (i := j) (by rw [swapT_length]; exact hj)
      rw [swapT_bang hi hj hj, if_pos rfl] at this
      exact this
    · by_cases h2 : k = j
      · subst h2
        have := bang_mem (ts := swapT ts i k) (i := i) (by rw [swapT_length]; exact hi)
        rw [swapT_bang hi hj hi, if_neg (Ne.symm h1), if_pos rfl] at this
        exact this
      · have := bang_mem (ts := swapT ts i j) (i := k) (by rw [swapT_length]; exact hk)
        rw [swapT_bang hi hj hk, if_neg h2, if_neg h1] at this
        exact this
theorem Plc.swap {ts : List Tm} {T : List (Int × Value)} (h : Plc ts T) {i j : Nat} (hi : i < ts.length) (hj : j < ts.length) : Plc (swapT ts i j) (swapP ts T i j) := by
  have inj : ∀ a b, a < (swapT ts i j).length → b < (swapT ts i j).length → (swapT ts i j)[a]!.f1 = (swapT ts i j)[b]!.f1 → a = b := by
    intro a b ha hb e
    rw [swapT_length] at ha hb
    rw [swapT_bang hi hj ha, swapT_bang hi hj hb] at e
    by_cases h1 : a = j <;> by_cases h2 : b = j
    · omega
    · rw [if_pos h1, if_neg h2] at e
      by_cases h3 : b = i
      · rw [if_pos h3] at e
        have := h.inj _ _ hi hj e
        omega
      · rw [if_neg h3] at e
        have := h.inj _ _ hi hb e
        omega
    · rw [if_neg h1, if_pos h2] at e
      by_cases h3 : a = i
      · rw [if_pos h3] at e
        have := h.inj _ _ hj hi e
        omega
      · rw [if_neg h3] at e
        have := h.inj _ _ ha hi e
        omega
    · rw [if_neg h1, if_neg h2] at e
      by_cases h3 : a = i <;> by_cases h4 : b = i
      · omega
      · rw [if_pos h3, if_neg h4] at e
        have := h.inj _ _ hj hb e
        omega
      · rw [if_neg h3, if_pos h4] at e
        have := h.inj _ _ ha hj e
        omega
      · rw [if_neg h3, if_neg h4] at e
        exact h.inj _ _ ha hb e
  have hii : (swapT ts i j)[i]! = ts[j]! := by
    rw [swapT_bang hi hj hi]
    split
    · rename_i e; rw [e]
    · rw [if_pos rfl]
  have hjj : (swapT ts i j)[j]! = ts[i]! := by rw [swapT_bang hi hj hj, if_pos rfl]
  have gi : (tget T ts[i]!.f1).isSome = true := by rw [h.get i hi]; rfl
  have gj : (tget T ts[j]!.f1).isSome = true := by rw [h.get j hj]; rfl
  refine ⟨inj, fun t ht => h.ok t ((swapT_mem hi hj t).mp ht), fun k hk => ?_, fun k hk => ?_, ?_⟩
  · unfold swapP
    rw [tget_tput, tget_tput]
    by_cases e1 : (swapT ts i j)[j]!.f1 = (swapT ts i j)[k]!.f1
    · rw [if_pos e1, inj j k (by rw [swapT_length]; exact hj) hk e1]
    · rw [if_neg e1]
      by_cases e2 : (swapT ts i j)[i]!.f1 = (swapT ts i j)[k]!.f1
      · rw [if_pos e2, inj i k (by rw [swapT_length]; exact hi) hk e2]
      · rw [if_neg e2]
        rw [swapT_length] at hk
        have n1 : k ≠ j := fun e => e1 (by rw [e])
        have n2 : k ≠ i := fun e => e2 (by rw [e])
        rw [swapT_bang hi hj hk, if_neg n1, if_neg n2]
        exact h.get k hk
  · unfold swapP
    have m1 := hk _ (bang_mem (ts := swapT ts i j) (i := j) (by rw [swapT_length]; exact hj))
    have m2 := hk _ (bang_mem (ts := swapT ts i j) (i := i) (by rw [swapT_length]; exact hi))
    rw [tget_tput, tget_tput, if_neg m1, if_neg m2]
    exact h.none k (fun t ht => hk t ((swapT_mem hi hj t).mpr ht))
  · unfold swapP
    rw [swapT_length, hii, hjj, tput_len_has, tput_len_has]
    · exact h.len
    · exact gj
    · rw [tget_tput]
      split
      · rfl
      · exact gi
theorem Plc.push {ts : List Tm} {T : List (Int × Value)} (h : Plc ts T) (x : Tm) (hx : ∀ t ∈ ts, t.f1 ≠ x.f1) (hok : okI x.f1) : Plc (ts ++ [x]) (tput T x.f1 (.int .i64 ts.length)) := by
  have lt : ∀ k, k < ts.length → (ts ++ [x])[k]! = ts[k]! := fun k hk => by
    rw [bang_get (by rw [List.length_append]; omega), List.getElem_append_left hk, bang_get hk]
  have at_ : (ts ++ [x])[ts.length]! = x := by
    rw [bang_get (by rw [List.length_append]; simp), List.getElem_append_right (Nat.le_refl _)]
    simp
  refine ⟨fun a b ha hb e => ?_, fun t ht => ?_, fun k hk => ?_, fun k hk => ?_, ?_⟩
  · rw [List.length_append, List.length_singleton] at ha hb
    by_cases h1 : a < ts.length <;> by_cases h2 : b < ts.length
    · rw [lt a h1, lt b h2] at e
      exact h.inj a b h1 h2 e
    · obtain rfl : b = ts.length := by omega
      rw [lt a h1, at_] at e
      exact absurd e (hx _ (bang_mem h1))
    · obtain rfl : a = ts.length := by omega
      rw [lt b h2, at_] at e
      exact absurd e.symm (hx _ (bang_mem h2))
    · omega
  · rcases List.mem_append.mp ht with ht | ht
    · exact h.ok t ht
    · rw [List.mem_singleton.mp ht]
      exact hok
  · rw [List.length_append, List.length_singleton] at hk
    rw [tget_tput]
    by_cases h1 : k < ts.length
    · rw [lt k h1, if_neg (fun e => hx _ (bang_mem h1) e.symm)]
      exact h.get k h1
    · obtain rfl : k = ts.length := by omega
      rw [at_, if_pos rfl]
  · rw [tget_tput, if_neg (hk x (by simp))]
    exact h.none k (fun t ht => hk t (List.mem_append.mpr (.inl ht)))
  · have := tput_length T x.f1 (.int .i64 ts.length)
    have := h.len
    rw [List.length_append, List.length_singleton]
    omega
theorem take_bang {ts : List Tm} {n k : Nat} (hn : n ≤ ts.length) (hk : k < n) : (ts.take n)[k]! = ts[k]! := by
  rw [bang_get (by rw [List.length_take]; omega), List.getElem_take, bang_get (by omega)]
theorem Plc.pop {ts : List Tm} {T : List (Int × Value)} (h : Plc ts T) {n : Nat} (hn : ts.length = n + 1) : Plc (ts.take n) (tdel T ts[n]!.f1) := by
  have hl : (ts.take n).length = n := by rw [List.length_take]; omega
  refine ⟨fun a b ha hb e => ?_, fun t ht => h.ok t (List.mem_of_mem_take ht), fun k hk => ?_, fun k hk => ?_, ?_⟩
  · rw [hl] at ha hb
    rw [take_bang (by omega) ha, take_bang (by omega) hb] at e
    exact h.inj a b (by omega) (by omega) e
  · rw [hl] at hk
    rw [take_bang (by omega) hk, tget_tdel, if_neg (fun e => by have := h.inj _ _ (by omega) (by omega) e; omega)]
    exact h.get k (by omega)
  · rw [tget_tdel]
    split
    · rfl
    · rename_i ne
      refine h.none k (fun t ht => ?_)
      obtain ⟨i, hi, rfl⟩ := mem_bang ht
      by_cases e : i < n
      · rw [← take_bang (by omega) e]
        exact hk _ (bang_mem (by omega))
      · obtain rfl : i = n := by omega
        exact ne
  · have := tdel_len_has T ts[n]!.f1 (by rw [h.get n (by omega)]; rfl)
    have := h.len
    omega
theorem Plc.due {ts : List Tm} {T : List (Int × Value)} (h : Plc ts T) {i : Nat} (hi : i < ts.length) (d : Int) : Plc (ts.set i ⟨d, ts[i]!.f1⟩) T := by
  have hl : (ts.set i ⟨d, ts[i]!.f1⟩).length = ts.length := List.length_set
  have f : ∀ k, k < ts.length → (ts.set i ⟨d, ts[i]!.f1⟩)[k]!.f1 = ts[k]!.f1 := fun k hk => by
    rw [set_bang _ _ _ _ hk]
    split
    · rename_i e; rw [e]
    · rfl
  refine ⟨fun a b ha hb e => ?_, fun t ht => ?_, fun k hk => ?_, fun k hk => ?_, by rw [hl]; exact h.len⟩
  · rw [hl] at ha hb
    rw [f a ha, f b hb] at e
    exact h.inj a b ha hb e
  · obtain ⟨k, hk, rfl⟩ := mem_bang ht
    rw [hl] at hk
    rw [f k hk]
    exact h.ok _ (bang_mem hk)
  · rw [hl] at hk
    rw [f k hk]
    exact h.get k hk
  · refine h.none k (fun t ht => ?_)
    obtain ⟨a, ha, rfl⟩ := mem_bang ht
    rw [← f a ha]
    exact hk _ (bang_mem (by rw [hl]; exact ha))
/-- What up does to a list. -/
def upF : Nat → List Tm → Nat → List Tm
  | 0, ts, _ => ts
  | n + 1, ts, j => if (j - 1) / 2 = j ∨ tless ts[j]! ts[(j - 1) / 2]! = false then ts else upF n (swapT ts ((j - 1) / 2) j) ((j - 1) / 2)
/-- What down does to a list, and where it ends. -/
def kid (ts : List Tm) (i n : Nat) : Nat := if 2 * i + 2 < n ∧ tless ts[2 * i + 2]! ts[2 * i + 1]! = true then 2 * i + 2 else 2 * i + 1
def downF : Nat → List Tm → Nat → Nat → List Tm × Nat
  | 0, ts, i, _ => (ts, i)
  | f + 1, ts, i, n => if 2 * i + 1 ≥ n then (ts, i) else if tless ts[kid ts i n]! ts[i]! = false then (ts, i) else downF f (swapT ts i (kid ts i n)) (kid ts i n) n
theorem upF_length : ∀ (n : Nat) (ts : List Tm) (j : Nat), (upF n ts j).length = ts.length
  | 0, _, _ => rfl
  | n + 1, ts, j => by
    rw [upF]
    split
    · rfl
    · rw [upF_length, swapT_length]
theorem downF_length : ∀ (f : Nat) (ts : List Tm) (i n : Nat), (downF f ts i n).1.length = ts.length
  | 0, _, _, _ => rfl
  | f + 1, ts, i, n => by
    rw [downF]
    split
    · rfl
    · split
      · rfl
      · rw [downF_length, swapT_length]
theorem kid_lt {ts : List Tm} {i n : Nat} (h : 2 * i + 1 < n) : kid ts i n < n ∧ i < kid ts i n := by
  unfold kid
  split <;> omega
/-- A pile and its places. -/
def QAt (w : World) (B p mb : Nat) (v : Value) (ts : List Tm) : Prop := ∃ T, PAt w B p mb v ts T ∧ Plc ts T
end Go.Proofs.Ytjoemkmckabpjaa.Pr
