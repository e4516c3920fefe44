-- The heap is the list: plain Lean.
import Derived.Test.YtjoemkmckabpjaaTmRef3
namespace Go.Proofs.Ytjoemkmckabpjaa.Pr
open Go.RowKit
set_option linter.unusedVariables false
set_option linter.unusedSimpArgs false
def tle (a b : Tm) : Prop := a.f0 < b.f0 ∨ (a.f0 = b.f0 ∧ a.f1 ≤ b.f1)
theorem tle_of {a b : Tm} (h : tless b a = false) : tle a b := by
  have := Bool.eq_false_iff.mp h
  rw [ne_eq, tless_iff] at this
  unfold tle
  omega
theorem tle_lt {a b : Tm} (h : tless a b = true) : tle a b := by
  rw [tless_iff] at h
  unfold tle
  omega
theorem tle_trans {a b c : Tm} (h1 : tle a b) (h2 : tle b c) : tle a c := by
  unfold tle at *
  omega
theorem tle_refl (a : Tm) : tle a a := by
  unfold tle
  omega
theorem tle_anti {a b : Tm} (h1 : tle a b) (h2 : tle b a) : a = b := by
  unfold tle at *
  exact tm_ext (by omega) (by omega)
theorem tless_of {a b : Tm} (h : tle a b) (hne : a ≠ b) : tless a b = true := by
  rw [tless_iff]
  unfold tle at h
  have : ¬ (a.f0 = b.f0 ∧ a.f1 = b.f1) := fun e => hne (tm_ext e.1 e.2)
  omega
theorem swapT_perm {ts : List Tm} {i j : Nat} (hi : i < ts.length) (hj : j < ts.length) : (swapT ts i j).Perm ts := by
  rw [List.perm_iff_count]
  intro b
  unfold swapT
  rw [List.count_set (by rw [List.length_set]; exact hj), List.count_set hi]
  have e : (ts.set i ts[j]!)[j]'(by rw [List.length_set]; exact hj) = ts[j]! := by
    rw [List.getElem_set]
    split
    · rfl
    · exact (bang_get hj).symm
  rw [e, ← bang_get hi]
  have hx : (if (ts[i]! == b) = true then 1 else 0) ≤ List.count b ts := by
    split
    · rename_i e
      have : b ∈ ts := (beq_iff_eq.mp e) ▸ bang_mem hi
      exact List.count_pos_iff.mpr this
    · exact Nat.zero_le _
  omega
def HeapT (ts : List Tm) (n : Nat) : Prop := ∀ k, 0 < k → k < n → tle ts[(k - 1) / 2]! ts[k]!
structure UpI (ts : List Tm) (j n : Nat) : Prop where
  lt : j < n
  up : ∀ k, 0 < k → k < n → k ≠ j → tle ts[(k - 1) / 2]! ts[k]!
  over : ∀ k, 0 < k → k < n → (k - 1) / 2 = j → 0 < j → tle ts[(j - 1) / 2]! ts[k]!
theorem upF_heap : ∀ (f : Nat) (ts : List Tm) (j n : Nat), j < f → n ≤ ts.length → UpI ts j n → HeapT (upF f ts j) n
  | 0, ts, j, n, h, _, _ => absurd h (by omega)
  | f + 1, ts, j, n, hf, hn, h => by
    rw [upF]
    by_cases hs : (j - 1) / 2 = j ∨ tless ts[j]! ts[(j - 1) / 2]! = false
    · rw [if_pos hs]
      intro k h0 hk
      by_cases e : k = j
      · subst e
        rcases hs with hs | hs
        · omega
        · exact tle_of hs
      · exact h.up k h0 hk e
    · rw [if_neg hs]
      have h1 : (j - 1) / 2 ≠ j := fun e => hs (.inl e)
      have h2 : tless ts[j]! ts[(j - 1) / 2]! = true := by
        cases hc : tless ts[j]! ts[(j - 1) / 2]!
        · exact absurd (.inr hc) hs
        · rfl
      have hjl := h.lt
      obtain ⟨i, hi⟩ : ∃ i, i = (j - 1) / 2 := ⟨_, rfl⟩
      rw [← hi] at h1 h2 ⊢
      have hij : i < j := by omega
      have v : ∀ x, x < n → (swapT ts i j)[x]! = if x = j then ts[i]! else if x = i then ts[j]! else ts[x]! := fun x hx => swapT_bang (by omega) (by omega) (by omega)
      have hle : tle ts[j]! ts[i]! := tle_lt h2
      refine upF_heap f _ i n (by omega) (by rw [swapT_length]; exact hn) ⟨by omega, fun k h0 hk hne => ?_, fun k h0 hk hp hi0 => ?_⟩
      · rw [v k hk, v ((k - 1) / 2) (by omega), if_neg hne]
        by_cases e1 : k = j
        · rw [if_pos e1, e1, ← hi, if_neg (by omega), if_pos rfl]
          exact hle
        · rw [if_neg e1]
          by_cases e2 : (k - 1) / 2 = j
          · rw [if_pos e2]
            have := h.over k h0 hk e2 (by omega)
            rw [← hi] at this
            exact this
          · rw [if_neg e2]
            by_cases e3 : (k - 1) / 2 = i
            · rw [if_pos e3]
              have := h.up k h0 hk e1
              rw [e3] at this
              exact tle_trans hle this
            · rw [if_neg e3]
              exact h.up k h0 hk e1
      · rw [v k hk, v ((i - 1) / 2) (by omega), if_neg (show ¬ (i - 1) / 2 = j by omega), if_neg (show ¬ (i - 1) / 2 = i by omega), if_neg (show ¬ k = i by omega)]
        have hg := h.up i (by omega) (by omega) (by omega)
        by_cases e1 : k = j
        · rw [if_pos e1]
          exact hg
        · rw [if_neg e1]
          have := h.up k h0 hk e1
          rw [hp] at this
          exact tle_trans hg this
theorem upF_above : ∀ (f : Nat) (ts : List Tm) (j k : Nat), j < k → k < ts.length → (upF f ts j)[k]! = ts[k]!
  | 0, ts, j, k, _, _ => rfl
  | f + 1, ts, j, k, hj, hk => by
    rw [upF]
    split
    · rfl
    · rw [upF_above f _ _ k (by omega) (by rw [swapT_length]; exact hk), swapT_bang (by omega) (by omega) hk, if_neg (by omega), if_neg (by omega)]
theorem upF_perm : ∀ (f : Nat) (ts : List Tm) (j : Nat), j < ts.length → (upF f ts j).Perm ts
  | 0, ts, j, _ => List.Perm.refl _
  | f + 1, ts, j, hj => by
    rw [upF]
    split
    · exact List.Perm.refl _
    · exact (upF_perm f _ _ (by rw [swapT_length]; omega)).trans (swapT_perm (by omega) hj)
/-- A heap but for what stands at i. -/
structure FixI (ts : List Tm) (i n : Nat) : Prop where
  off : ∀ k, 0 < k → k < n → k ≠ i → (k - 1) / 2 ≠ i → tle ts[(k - 1) / 2]! ts[k]!
  over : ∀ k, 0 < k → k < n → (k - 1) / 2 = i → 0 < i → tle ts[(i - 1) / 2]! ts[k]!
theorem kid_is {ts : List Tm} {i n : Nat} (h : 2 * i + 1 < n) : (kid ts i n - 1) / 2 = i ∧ 0 < kid ts i n ∧ kid ts i n < n ∧ ∀ k, 0 < k → k < n → (k - 1) / 2 = i → tle ts[kid ts i n]! ts[k]! := by
  unfold kid
  by_cases hc : 2 * i + 2 < n ∧ tless ts[2 * i + 2]! ts[2 * i + 1]! = true
  · rw [if_pos hc]
    refine ⟨by omega, by omega, by omega, fun k h0 hk hp => ?_⟩
    rcases (show k = 2 * i + 1 ∨ k = 2 * i + 2 by omega) with rfl | rfl
    · exact tle_lt hc.2
    · exact tle_refl _
  · rw [if_neg hc]
    refine ⟨by omega, by omega, by omega, fun k h0 hk hp => ?_⟩
    rcases (show k = 2 * i + 1 ∨ k = 2 * i + 2 by omega) with rfl | rfl
    · exact tle_refl _
    · refine tle_of ?_
      cases hb : tless ts[2 * i + 2]! ts[2 * i + 1]!
      · rfl
      · exact absurd ⟨hk, hb⟩ hc
theorem down_step {ts : List Tm} {i n : Nat} (hn : n ≤ ts.length) (h : FixI ts i n) (hc : 2 * i + 1 < n) (hl : tless ts[kid ts i n]! ts[i]! = true) : FixI (swapT ts i (kid ts i n)) (kid ts i n) n ∧ tle (swapT ts i (kid ts i n))[(kid ts i n - 1) / 2]! (swapT ts i (kid ts i n))[kid ts i n]! := by
  obtain ⟨hp, h0, hlt, hmin⟩ := kid_is (ts := ts) hc
  obtain ⟨j, hj⟩ : ∃ j, j = kid ts i n := ⟨_, rfl⟩
  rw [← hj] at hp h0 hlt hmin hl ⊢
  have hij : i < j := by omega
  have hle : tle ts[j]! ts[i]! := tle_lt hl
  have v : ∀ x, x < n → (swapT ts i j)[x]! = if x = j then ts[i]! else if x = i then ts[j]! else ts[x]! := fun x hx => swapT_bang (by omega) (by omega) (by omega)
  refine ⟨⟨fun k k0 hk hne hpe => ?_, fun k k0 hk hpk _ => ?_⟩, ?_⟩
  · rw [v k hk, v ((k - 1) / 2) (by omega), if_neg hne, if_neg hpe]
    by_cases e1 : k = i
    · rw [if_pos e1, if_neg (by omega)]
      have := h.over j h0 hlt hp (by omega)
      rw [e1]
      exact this
    · rw [if_neg e1]
      by_cases e2 : (k - 1) / 2 = i
      · rw [if_pos e2]
        exact hmin k k0 hk e2
      · rw [if_neg e2]
        exact h.off k k0 hk e1 e2
  · rw [hp, v k hk, v i (by omega), if_neg (show ¬ i = j by omega), if_pos rfl, if_neg (show ¬ k = j by omega), if_neg (show ¬ k = i by omega)]
    have := h.off k k0 hk (by omega) (by omega)
    rw [hpk] at this
    exact this
  · rw [hp, v i (by omega), v j hlt, if_neg (show ¬ i = j by omega), if_pos rfl, if_pos rfl]
    exact hle
theorem downF_ge : ∀ (f : Nat) (ts : List Tm) (i n : Nat), i ≤ (downF f ts i n).2
  | 0, ts, i, n => Nat.le_refl _
  | f + 1, ts, i, n => by
    rw [downF]
    split
    · exact Nat.le_refl _
    · split
      · exact Nat.le_refl _
      · have := downF_ge f (swapT ts i (kid ts i n)) (kid ts i n) n
        have := (kid_is (ts := ts) (i := i) (n := n) (by omega)).1
        have := (kid_is (ts := ts) (i := i) (n := n) (by omega)).2.1
        omega
theorem downF_heap : ∀ (f : Nat) (ts : List Tm) (i n : Nat), n ≤ i + f → n ≤ ts.length → FixI ts i n → (0 < i → i < n → tle ts[(i - 1) / 2]! ts[i]!) → HeapT (downF f ts i n).1 n
  | 0, ts, i, n, hf, hn, h, hi => fun k h0 hk => h.off k h0 hk (by omega) (by omega)
  | f + 1, ts, i, n, hf, hn, h, hi => by
    rw [downF]
    by_cases h1 : 2 * i + 1 ≥ n
    · rw [if_pos h1]
      intro k h0 hk
      by_cases e : k = i
      · subst e
        exact hi h0 hk
      · exact h.off k h0 hk e (by omega)
    · rw [if_neg h1]
      obtain ⟨hp, h0, hlt, hmin⟩ := kid_is (ts := ts) (i := i) (n := n) (by omega)
      by_cases h2 : tless ts[kid ts i n]! ts[i]! = false
      · rw [if_pos h2]
        intro k k0 hk
        by_cases e : k = i
        · subst e
          exact hi k0 hk
        · by_cases e2 : (k - 1) / 2 = i
          · rw [e2]
            exact tle_trans (tle_of h2) (hmin k k0 hk e2)
          · exact h.off k k0 hk e e2
      · rw [if_neg h2]
        have h2' : tless ts[kid ts i n]! ts[i]! = true := by
          cases hc : tless ts[kid ts i n]! ts[i]!
          · exact absurd hc h2
          · rfl
        obtain ⟨a, b⟩ := down_step hn h (by omega) h2'
        exact downF_heap f _ _ n (by omega) (by rw [swapT_length]; exact hn) a (fun _ _ => b)
theorem downF_fix (f : Nat) (ts : List Tm) (i n : Nat) (hf : n ≤ i + f) (hn : n ≤ ts.length) (h : FixI ts i n) :
    ((downF f ts i n).2 = i ∧ (downF f ts i n).1 = ts ∧ ∀ k, 0 < k → k < n → (k - 1) / 2 = i → tle ts[i]! ts[k]!) ∨ (i < (downF f ts i n).2 ∧ HeapT (downF f ts i n).1 n) := by
  cases f with
  | zero => exact .inl ⟨rfl, rfl, fun k h0 hk hp => by omega⟩
  | succ f =>
    rw [downF]
    by_cases h1 : 2 * i + 1 ≥ n
    · rw [if_pos h1]
      exact .inl ⟨rfl, rfl, fun k h0 hk hp => by omega⟩
    · rw [if_neg h1]
      obtain ⟨hp, h0, hlt, hmin⟩ := kid_is (ts := ts) (i := i) (n := n) (by omega)
      by_cases h2 : tless ts[kid ts i n]! ts[i]! = false
      · rw [if_pos h2]
        exact .inl ⟨rfl, rfl, fun k k0 hk e => tle_trans (tle_of h2) (hmin k k0 hk e)⟩
      · rw [if_neg h2]
        have h2' : tless ts[kid ts i n]! ts[i]! = true := by
          cases hc : tless ts[kid ts i n]! ts[i]!
          · exact absurd hc h2
          · rfl
        obtain ⟨a, b⟩ := down_step hn h (by omega) h2'
        refine .inr ⟨?_, downF_heap f _ _ n (by omega) (by rw [swapT_length]; exact hn) a (fun _ _ => b)⟩
        have := downF_ge f (swapT ts i (kid ts i n)) (kid ts i n) n
        omega
theorem downF_perm : ∀ (f : Nat) (ts : List Tm) (i n : Nat), n ≤ ts.length → (downF f ts i n).1.Perm ts
  | 0, ts, i, n, _ => List.Perm.refl _
  | f + 1, ts, i, n, hn => by
    rw [downF]
    split
    · exact List.Perm.refl _
    · rename_i h1
      split
      · exact List.Perm.refl _
      · obtain ⟨hp, h0, hlt, hmin⟩ := kid_is (ts := ts) (i := i) (n := n) (by omega)
        exact (downF_perm f _ _ n (by rw [swapT_length]; exact hn)).trans (swapT_perm (by omega) (by omega))
theorem downF_above : ∀ (f : Nat) (ts : List Tm) (i n k : Nat), n ≤ k → k < ts.length → (downF f ts i n).1[k]! = ts[k]!
  | 0, ts, i, n, k, _, _ => rfl
  | f + 1, ts, i, n, k, hn, hk => by
    rw [downF]
    split
    · rfl
    · rename_i h1
      split
      · rfl
      · obtain ⟨hp, h0, hlt, hmin⟩ := kid_is (ts := ts) (i := i) (n := n) (by omega)
        rw [downF_above f _ _ n k hn (by rw [swapT_length]; exact hk), swapT_bang (by omega) (by omega) hk, if_neg (by omega), if_neg (by omega)]
theorem mendF_heap {ts : List Tm} {i n : Nat} (hi : i < n) (hn : n ≤ ts.length) (h : FixI ts i n) : HeapT (mendF ts i n) n := by
  unfold mendF
  rcases downF_fix (n + 1) ts i n (by omega) hn h with ⟨h1, h2, h3⟩ | ⟨h1, h2⟩
  · rw [if_neg (by omega), h2]
    refine upF_heap (i + 1) ts i n (by omega) hn ⟨hi, fun k h0 hk hne => ?_, h.over⟩
    by_cases e : (k - 1) / 2 = i
    · rw [e]
      exact h3 k h0 hk e
    · exact h.off k h0 hk hne e
  · rw [if_pos h1]
    exact h2
theorem mendF_perm {ts : List Tm} {i n : Nat} (hi : i < n) (hn : n ≤ ts.length) : (mendF ts i n).Perm ts := by
  unfold mendF
  split
  · exact downF_perm _ _ _ _ hn
  · exact (upF_perm _ _ _ (by rw [downF_length]; omega)).trans (downF_perm _ _ _ _ hn)
theorem mendF_above {ts : List Tm} {i n k : Nat} (hi : i < n) (hn : n ≤ k) (hk : k < ts.length) : (mendF ts i n)[k]! = ts[k]! := by
  unfold mendF
  split
  · exact downF_above _ _ _ _ _ hn hk
  · rw [upF_above _ _ _ _ (by omega) (by rw [downF_length]; exact hk), downF_above _ _ _ _ _ hn hk]
theorem heap_least {ts : List Tm} {n : Nat} (h : HeapT ts n) : ∀ k, k < n → tle ts[0]! ts[k]! := by
  intro k
  induction k using Nat.strongRecOn with
  | _ k ih =>
    intro hk
    by_cases h0 : k = 0
    · rw [h0]
      exact tle_refl _
    · exact tle_trans (ih ((k - 1) / 2) (by omega) (by omega)) (h k (by omega) hk)
theorem heap_take {ts : List Tm} {n : Nat} (hn : n ≤ ts.length) (h : HeapT ts n) : HeapT (ts.take n) n := fun k h0 hk => by
  rw [take_bang hn hk, take_bang hn (by omega)]
  exact h k h0 hk
theorem set_heap {ts : List Tm} {i : Nat} (hi : i < ts.length) (x : Tm) (h : HeapT ts ts.length) : FixI (ts.set i x) i ts.length := by
  have v : ∀ k, k < ts.length → k ≠ i → (ts.set i x)[k]! = ts[k]! := fun k hk hne => by rw [set_bang _ _ _ _ hk, if_neg (Ne.symm hne)]
  refine ⟨fun k h0 hk hne hp => ?_, fun k h0 hk hp hi0 => ?_⟩
  · rw [v k hk hne, v ((k - 1) / 2) (by omega) hp]
    exact h k h0 hk
  · rw [v k hk (by omega), v ((i - 1) / 2) (by omega) (by omega)]
    have a := h i hi0 hi
    have b := h k h0 hk
    rw [hp] at b
    exact tle_trans a b
theorem swap_heap {ts : List Tm} {i n : Nat} (hl : ts.length = n + 1) (hi : i < n) (h : HeapT ts ts.length) : FixI (swapT ts i n) i n := by
  have v : ∀ k, k < n → k ≠ i → (swapT ts i n)[k]! = ts[k]! := fun k hk hne => by rw [swapT_bang (by omega) (by omega) (by omega), if_neg (by omega), if_neg hne]
  refine ⟨fun k h0 hk hne hp => ?_, fun k h0 hk hp hi0 => ?_⟩
  · rw [v k hk hne, v ((k - 1) / 2) (by omega) hp]
    exact h k h0 (by omega)
  · rw [v k hk (by omega), v ((i - 1) / 2) (by omega) (by omega)]
    have a := h i hi0 (by omega)
    have b := h k h0 (by omega)
    rw [hp] at b
    exact tle_trans a b
theorem push_heap {ts : List Tm} (x : Tm) (h : HeapT ts ts.length) : HeapT (pushF ts x) (ts.length + 1) := by
  unfold pushF
  have lt : ∀ k, k < ts.length → (ts ++ [x])[k]! = ts[k]! := fun k hk => by
    rw [bang_get (by rw [List.length_append]; omega), List.getElem_append_left hk, bang_get hk]
  refine upF_heap _ _ _ _ (by omega) (by simp) ⟨by omega, fun k h0 hk hne => ?_, fun k h0 hk hp _ => by omega⟩
  rw [lt k (by omega), lt ((k - 1) / 2) (by omega)]
  exact h k h0 (by omega)
theorem push_perm (ts : List Tm) (x : Tm) : (pushF ts x).Perm (x :: ts) := by
  unfold pushF
  exact (upF_perm _ _ _ (by simp)).trans (List.perm_append_singleton x ts)
theorem take_last {us : List Tm} {n : Nat} (h : us.length = n + 1) : us = us.take n ++ [us[n]!] := by
  rw [bang_get (by omega), List.take_append_getElem, List.take_of_length_le (by omega)]
theorem pop_heap {ts : List Tm} {n : Nat} (hl : ts.length = n + 1) (h : HeapT ts ts.length) : HeapT ((popF ts).take n) n ∧ ((popF ts).take n ++ [ts[0]!]).Perm ts := by
  have hp : popF ts = (downF (n + 1) (swapT ts 0 n) 0 n).1 := by unfold popF; rw [hl]; rfl
  have hpl := popF_length ts
  have hlast : (popF ts)[n]! = ts[0]! := by
    rw [hp, downF_above _ _ _ _ _ (Nat.le_refl _) (by rw [swapT_length]; omega), swapT_bang (by omega) (by omega) (by omega), if_pos rfl]
  refine ⟨heap_take (by omega) ?_, ?_⟩
  · by_cases h0 : 0 < n
    · have hf := swap_heap hl h0 h
      rw [hp]
      exact downF_heap _ _ _ _ (by omega) (by rw [swapT_length]; omega) hf (fun h => absurd h (by omega))
    · intro k _ hk
      omega
  · rw [← hlast, ← take_last (by omega), hp]
    exact (downF_perm _ _ _ _ (by rw [swapT_length]; omega)).trans (swapT_perm (by omega) (by omega))
theorem rem_heap {ts : List Tm} {n i : Nat} (hl : ts.length = n + 1) (hi : i < ts.length) (h : HeapT ts ts.length) : HeapT ((remF ts i).take n) n ∧ ((remF ts i).take n ++ [ts[i]!]).Perm ts := by
  have hp : remF ts i = if n = i then ts else mendF (swapT ts i n) i n := by unfold remF; rw [hl]; rfl
  have hpl := remF_length ts i
  by_cases e : n = i
  · subst e
    rw [if_pos rfl] at hp
    rw [hp, ← take_last hl]
    exact ⟨heap_take (by omega) (fun k h0 hk => h k h0 (by omega)), List.Perm.refl _⟩
  · rw [if_neg e] at hp
    have hin : i < n := by omega
    have hlast : (remF ts i)[n]! = ts[i]! := by
      rw [hp, mendF_above hin (Nat.le_refl _) (by rw [swapT_length]; omega), swapT_bang (by omega) (by omega) (by omega), if_pos rfl]
    refine ⟨heap_take (by omega) ?_, ?_⟩
    · rw [hp]
      exact mendF_heap hin (by rw [swapT_length]; omega) (swap_heap hl hin h)
    · rw [← hlast, ← take_last (by omega), hp]
      exact (mendF_perm hin (by rw [swapT_length]; omega)).trans (swapT_perm (by omega) (by omega))
/-! The list's side -/
theorem wo_none {l : List Tm} {kind : Int} (h : ∀ t ∈ l, t.f1 ≠ kind) : wo l kind = l := by
  unfold wo
  rw [List.filter_eq_self]
  intro t ht
  simp [h t ht]
theorem wo_mem {l : List Tm} {kind : Int} {t : Tm} (h : t ∈ wo l kind) : t ∈ l ∧ t.f1 ≠ kind := by
  unfold wo at h
  rw [List.mem_filter] at h
  exact ⟨h.1, by simpa using h.2⟩
theorem set_wo : ∀ (ts : List Tm) (i : Nat) (kind : Int) (x : Tm), i < ts.length → ts[i]!.f1 = kind → (∀ k, k < ts.length → k ≠ i → ts[k]!.f1 ≠ kind) → (ts.set i x).Perm (x :: wo ts kind)
  | [], i, kind, x, h, _, _ => absurd h (by simp)
  | t :: ts, 0, kind, x, _, he, hn => by
    have e : wo (t :: ts) kind = ts := by
      unfold wo
      rw [List.filter_cons, if_neg (by simp [show t.f1 = kind from he])]
      exact wo_none (fun u hu => by
        obtain ⟨k, hk, rfl⟩ := mem_bang hu
        have := hn (k + 1) (by rw [List.length_cons]; omega) (by omega)
        rw [show (t :: ts)[k + 1]! = ts[k]! by rw [bang_get (by rw [List.length_cons]; omega), bang_get hk]; rfl] at this
        exact this)
    rw [e]
    exact List.Perm.refl _
  | t :: ts, i + 1, kind, x, h, he, hn => by
    have sh : ∀ k, k < ts.length → (t :: ts)[k + 1]! = ts[k]! := fun k hk => by rw [bang_get (by rw [List.length_cons]; omega), bang_get hk]; rfl
    rw [List.length_cons] at h hn
    have ih := set_wo ts i kind x (by omega) (by rw [← sh i (by omega)]; exact he) (fun k hk hne => by rw [← sh k hk]; exact hn (k + 1) (by omega) (by omega))
    have ht : t.f1 ≠ kind := hn 0 (by omega) (by omega)
    have e : wo (t :: ts) kind = t :: wo ts kind := by
      unfold wo
      rw [List.filter_cons, if_pos (by simp [ht])]
    rw [e, List.set_cons_succ]
    exact (List.Perm.cons t ih).trans (List.Perm.swap x t _)
theorem insT_perm (t : Tm) : ∀ l, (insT t l).Perm (t :: l)
  | [] => List.Perm.refl _
  | x :: xs => by
    rw [insT]
    split
    · exact List.Perm.refl _
    · exact (List.Perm.cons x (insT_perm t xs)).trans (List.Perm.swap t x _)
def SortedT (l : List Tm) : Prop := l.Pairwise fun a b => tless a b = true
theorem insT_sorted (t : Tm) : ∀ l, SortedT l → (∀ x ∈ l, x ≠ t) → SortedT (insT t l)
  | [], _, _ => List.pairwise_singleton _ _
  | x :: xs, h, hn => by
    obtain ⟨h1, h2⟩ := List.pairwise_cons.mp h
    rw [insT]
    by_cases hl : tless t x = true
    · rw [if_pos hl]
      refine List.pairwise_cons.mpr ⟨fun y hy => ?_, h⟩
      rcases List.mem_cons.mp hy with rfl | hy
      · exact hl
      · exact tless_trans hl (h1 y hy)
    · rw [if_neg hl]
      have hx : tless x t = true := tless_of (tle_of (Bool.eq_false_iff.mpr hl)) (hn x (by simp))
      refine List.pairwise_cons.mpr ⟨fun y hy => ?_, insT_sorted t xs h2 (fun y hy => hn y (by simp [hy]))⟩
      rcases List.mem_cons.mp ((insT_perm t xs).mem_iff.mp hy) with rfl | hy
      · exact hx
      · exact h1 y hy
/-- The program's queue and the document's. -/
structure Rel (ts l : List Tm) : Prop where
  heap : HeapT ts ts.length
  perm : ts.Perm l
  sorted : SortedT l
  len : ts.length ≤ 64
def InjT (ts : List Tm) : Prop := ∀ i j, i < ts.length → j < ts.length → ts[i]!.f1 = ts[j]!.f1 → i = j
theorem Rel.empty : Rel [] [] := ⟨fun k h0 hk => absurd hk (by simp), List.Perm.refl _, List.Pairwise.nil, Nat.zero_le _⟩
theorem Rel.none {ts l : List Tm} (h : Rel ts l) {kind : Int} (hn : ∀ t ∈ ts, t.f1 ≠ kind) : ∀ t ∈ l, t.f1 ≠ kind := fun t ht => hn t (h.perm.mem_iff.mpr ht)
theorem Rel.woP {ts l : List Tm} (h : Rel ts l) (kind : Int) : (wo ts kind).Perm (wo l kind) := h.perm.filter _
theorem Rel.put {ts us l : List Tm} {x : Tm} (h : Rel ts l) (hp : us.Perm (x :: wo ts x.f1)) (hh : HeapT us us.length) (hl : us.length ≤ 64) : Rel us (insT x (wo l x.f1)) := by
  refine ⟨hh, hp.trans ((List.Perm.cons x (h.woP x.f1)).trans (insT_perm x _).symm), insT_sorted x _ (h.sorted.filter _) (fun y hy e => (wo_mem hy).2 (by rw [e])), hl⟩
theorem Rel.set_has {ts l : List Tm} (h : Rel ts l) (hj : InjT ts) {i : Nat} (hi : i < ts.length) {kind : Int} (hk : ts[i]!.f1 = kind) (due : Int) : Rel (mendF (ts.set i ⟨due, kind⟩) i ts.length) (insT ⟨due, kind⟩ (wo l kind)) := by
  have hsl : (ts.set i (⟨due, kind⟩ : Tm)).length = ts.length := List.length_set
  have hm : (mendF (ts.set i ⟨due, kind⟩) i ts.length).length = ts.length := by rw [mendF_length, hsl]
  refine h.put (x := ⟨due, kind⟩) ((mendF_perm hi (by omega)).trans (set_wo ts i kind _ hi hk (fun k hk' hne e => hne (hj k i hk' hi (e.trans hk.symm))))) ?_ (by rw [hm]; exact h.len)
  rw [hm]
  exact mendF_heap hi (by omega) (set_heap hi _ h.heap)
theorem Rel.set_new {ts l : List Tm} (h : Rel ts l) {kind : Int} (hn : ∀ t ∈ ts, t.f1 ≠ kind) (hl : ts.length < 64) (due : Int) : Rel (pushF ts ⟨due, kind⟩) (insT ⟨due, kind⟩ (wo l kind)) := by
  have hm : (pushF ts ⟨due, kind⟩).length = ts.length + 1 := by rw [(push_perm ts _).length_eq]; rfl
  refine h.put (x := ⟨due, kind⟩) ?_ ?_ (by omega)
  · rw [show wo ts (⟨due, kind⟩ : Tm).f1 = ts from wo_none hn]
    exact push_perm ts _
  · rw [hm]
    exact push_heap _ h.heap
theorem Rel.stop_has {ts l : List Tm} (h : Rel ts l) (hj : InjT ts) {i : Nat} (hi : i < ts.length) {kind : Int} (hk : ts[i]!.f1 = kind) : Rel ((remF ts i).take (ts.length - 1)) (wo l kind) := by
  obtain ⟨h1, h2⟩ := rem_heap (n := ts.length - 1) (by omega) hi h.heap
  have hs := set_wo ts i kind ts[i]! hi hk (fun k hk' hne e => hne (hj k i hk' hi (e.trans hk.symm)))
  have e : ts.set i ts[i]! = ts := by rw [bang_get hi]; exact List.set_getElem_self hi
  rw [e] at hs
  have hp : ((remF ts i).take (ts.length - 1)).Perm (wo ts kind) := ((List.perm_append_singleton ts[i]! _).symm.trans (h2.trans hs)).cons_inv
  have hlen : ((remF ts i).take (ts.length - 1)).length = ts.length - 1 := by rw [List.length_take, remF_length]; omega
  exact ⟨by rw [hlen]; exact h1, hp.trans (h.woP kind), h.sorted.filter _, by have := h.len; omega⟩
theorem Rel.first {ts l : List Tm} (h : Rel ts l) {x : Tm} {xs : List Tm} (e : l = x :: xs) : ts[0]! = x ∧ 0 < ts.length := by
  have hl : ts.length = xs.length + 1 := by rw [h.perm.length_eq, e]; rfl
  refine ⟨tle_anti ?_ ?_, by omega⟩
  · obtain ⟨k, hk, hx⟩ := mem_bang (h.perm.mem_iff.mpr (by rw [e]; simp : x ∈ l))
    rw [← hx]
    exact heap_least h.heap k hk
  · have hm : ts[0]! ∈ l := h.perm.mem_iff.mp (bang_mem (by omega))
    have hs := h.sorted
    unfold SortedT at hs
    rw [e] at hm hs
    rcases List.mem_cons.mp hm with hm | hm
    · rw [hm]
      exact tle_refl _
    · exact tle_lt ((List.pairwise_cons.mp hs).1 _ hm)
theorem Rel.pop {ts l : List Tm} (h : Rel ts l) {x : Tm} {xs : List Tm} (e : l = x :: xs) : Rel ((popF ts).take (ts.length - 1)) xs := by
  obtain ⟨h0, hl⟩ := h.first e
  obtain ⟨h1, h2⟩ := pop_heap (n := ts.length - 1) (by omega) h.heap
  have hp : ((popF ts).take (ts.length - 1)).Perm xs := by
    have := (List.perm_append_singleton ts[0]! _).symm.trans (h2.trans h.perm)
    rw [e, h0] at this
    exact this.cons_inv
  have hlen : ((popF ts).take (ts.length - 1)).length = ts.length - 1 := by rw [List.length_take, popF_length]; omega
  have hs := h.sorted
  unfold SortedT at hs
  rw [e] at hs
  exact ⟨by rw [hlen]; exact h1, hp, (List.pairwise_cons.mp hs).2, by have := h.len; omega⟩
theorem sortT_sorted (x : List Tm) : (sortT x).Pairwise (fun a b => (!(Go.Proofs.ltOf tCmp) b a) = true) := by
  unfold sortT
  refine List.pairwise_mergeSort (le := fun x y => !(Go.Proofs.ltOf tCmp) y x) ?_ ?_ x
  · intro a b c h1 h2
    simp only [Bool.not_eq_true'] at *
    exact tSWO.ntrans _ _ _ h2 h1
  · intro a b
    rw [tCmp_lt, tCmp_lt]
    by_cases h1 : tless b a = true
    · have : ¬ tless a b = true := fun h2 => tless_irrefl _ (tless_trans h1 h2)
      simp_all
    · simp_all
theorem Rel.all {ts l : List Tm} (h : Rel ts l) : sortT ts = l := by
  refine List.Perm.eq_of_pairwise (le := fun a b => (!(Go.Proofs.ltOf tCmp) b a) = true) ?_ (sortT_sorted ts) ?_ ((List.mergeSort_perm ts _).trans h.perm)
  · intro a b _ _ h1 h2
    simp only [tCmp_lt] at h1 h2
    exact tless_total (by simp_all) (by simp_all)
  · refine List.Pairwise.imp ?_ h.sorted
    intro a b hab
    rw [tCmp_lt]
    have : ¬ tless b a = true := fun h2 => tless_irrefl _ (tless_trans hab h2)
    simp_all
end Go.Proofs.Ytjoemkmckabpjaa.Pr
