-- A pile of timers, walked: Less, Len.
import Derived.Test.YtjoemkmckabpjaaTmSwap
import Derived.Test.YtjoemkmckabpjaaQuietB
import Derived.Deep.QuietTactic
import Derived.BigQuiet
namespace Go.Proofs.Ytjoemkmckabpjaa.Pr
open Go.RowKit Go.Proofs.YtjoemkmckabpjaaW.PrintWords Go.Proofs.YtjoemkmckabpjaaW.PrintLast Go.Proofs.YtjoemkmckabpjaaW.PrintMore
set_option linter.unusedVariables false
set_option linter.unusedSimpArgs false
def tless (a b : Tm) : Bool := decide (a.f0 < b.f0) || (decide (a.f0 = b.f0) && decide (a.f1 < b.f1))
def tval (a : Tm) : Value := .agg #[.int .i64 a.f0, .int .i64 a.f1]
set_option maxRecDepth 100000 in
set_option maxHeartbeats 4000000 in
theorem tless_calls (w : World) (a b : Tm) :
    Calls Try.prog 27 #[tval a, tval b] w fun e w' => e = .returned (.bool (tless a b)) ∧ Below w.heap.size w w' := by
  obtain ⟨a0, a1⟩ := a
  obtain ⟨b0, b1⟩ := b
  show Calls Try.prog 27 #[.agg #[.int .i64 a0, .int .i64 a1], .agg #[.int .i64 b0, .int .i64 b1]] w fun e w' => e = .returned (.bool (decide (a0 < b0) || (decide (a0 = b0) && decide (a1 < b1)))) ∧ Below w.heap.size w w'
  by_cases h1 : a0 < b0
  · go_enter Try.func27, Try.ntmps27
    go_wp2
    go_ret
    exact ⟨by simp [h1], below_alloc (below_alloc (Below.refl _ _) _) _⟩
  · by_cases h2 : a0 = b0
    · subst h2
      go_enter Try.func27, Try.ntmps27
      go_wp2
      go_ret
      exact ⟨by simp, below_alloc (below_alloc (Below.refl _ _) _) _⟩
    · have h3 : (a0 == b0) = false := by simpa using h2
      go_enter Try.func27, Try.ntmps27
      go_wp2
      go_ret
      exact ⟨by simp [h1, h2], below_alloc (below_alloc (Below.refl _ _) _) _⟩
set_option maxRecDepth 100000 in
set_option maxHeartbeats 4000000 in
theorem less_calls (w : World) (B p mb : Nat) (v : Value) (ts : List Tm) (T : List (Int × Value)) (i j : Nat) (hi : i < ts.length) (hj : j < ts.length) (h : PAt w B p mb v ts T) :
    Calls Try.prog 67 #[.pointer (some ⟨p, 0, none⟩), .int .i64 i, .int .i64 j] w fun e w' => e = .returned (.bool (tless ts[i]! ts[j]!)) ∧ Below w.heap.size w w' := by
  obtain ⟨g, c, cur, rfl, hgB, hg, hlc, hcm, hcur⟩ := h.row.form (by omega)
  clear hcur
  obtain ⟨p0, p1, pf0, pf1⟩ := h.pcell
  obtain ⟨ic0, ic1, if0, if1⟩ := h.row.cells hi
  obtain ⟨jc0, jc1, jf0, jf1⟩ := h.row.cells hj
  rw [← bang_get hi] at ic0 ic1
  rw [← bang_get hj] at jc0 jc1
  obtain ⟨ti, hti⟩ : ∃ ti, ti = ts[i]! := ⟨_, rfl⟩
  obtain ⟨tj, htj⟩ : ∃ tj, tj = ts[j]! := ⟨_, rfl⟩
  rw [← hti] at ic0 ic1
  rw [← htj] at jc0 jc1
  rw [← hti, ← htj]
  have q1 : (0 : Int) ≤ (i : Int) := by omega
  have q2 : (i : Int) < (ts.length : Int) := by omega
  have q3 : (0 : Int) ≤ (j : Int) := by omega
  have q4 : (j : Int) < (ts.length : Int) := by omega
  have HL := fun V => tless_calls V ti tj
  unfold tval at HL
  have HLL := Lib.hid HL
  have g0 := bw_cell p0
  have g1 := bw_cell ic0
  have g2 := bw_cell ic1
  have g3 := bw_cell jc0
  have g4 := bw_cell jc1
  clear h hti htj if0 if1 jf0 jf1 pf0 pf1 hg HL p0 p1 ic0 ic1 jc0 jc1
  go_enter Try.func67, Try.ntmps67
  go_wp2
  refine wp_region_below (by kernel_rfl) (by kernel_rfl) ?_
  repeat (go_big_quiet_step (with_reducible refine bw_call (HLL.out _)))
  refine wpQuiet_nil ?_
  rintro _ ⟨u, rfl⟩
  go_wp2
  go_ret
  exact ⟨rfl, u.ok⟩
theorem PAt.len {w : World} {B p mb : Nat} {v : Value} {ts : List Tm} {T : List (Int × Value)} (h : PAt w B p mb v ts T) : ∃ a c, v = .slice a ts.length c := by
  by_cases h0 : 0 < ts.length
  · obtain ⟨g, c, cur, e, _⟩ := h.row.form h0
    exact ⟨_, _, e⟩
  · have e : ts = [] := List.eq_nil_of_length_eq_zero (by omega)
    subst e
    obtain ⟨_, h2⟩ := h.row
    rcases h2 with ⟨e, _⟩ | ⟨g, c, cur, e, _⟩
    · exact ⟨_, _, e⟩
    · exact ⟨_, _, e⟩
theorem len_calls (w : World) (B p mb : Nat) (v : Value) (ts : List Tm) (T : List (Int × Value)) (h : PAt w B p mb v ts T) :
    Calls Try.prog 20 #[.pointer (some ⟨p, 0, none⟩)] w fun e w' => e = .returned (.int .i64 ts.length) ∧ w' = w := by
  obtain ⟨a, c, rfl⟩ := h.len
  obtain ⟨p0, p1, pf0, pf1⟩ := h.pcell
  go_enter Try.func20, Try.ntmps20
  go_wp2
  go_ret
  exact ⟨rfl, rfl⟩
end Go.Proofs.Ytjoemkmckabpjaa.Pr
