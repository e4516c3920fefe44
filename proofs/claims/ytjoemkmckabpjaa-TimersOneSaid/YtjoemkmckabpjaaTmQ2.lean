-- A queue of timers, walked: Pop.
import Derived.Test.YtjoemkmckabpjaaTmQ
namespace Go.Proofs.Ytjoemkmckabpjaa.Pr
open Go.RowKit Go.Proofs.YtjoemkmckabpjaaW.PrintWords Go.Proofs.YtjoemkmckabpjaaW.PrintLast Go.Proofs.YtjoemkmckabpjaaW.PrintMore
open Go.ChangeMaps (setBlock)
set_option linter.unusedVariables false
set_option linter.unusedSimpArgs false
/-- What a queue's function leaves. -/
def KRan (w : World) (B q p mb : Nat) (v : Value) (ts' : List Tm) (w' : World) : Prop := ∃ v', KAt w' B q p mb v' ts' ∧ Below B w w' ∧ Kept w w' (PFoot p mb v) ∧ (v'.ownBlock = v.ownBlock ∨ ∃ k, v'.ownBlock = some k ∧ w.heap.size ≤ k)
theorem KAt.base {w : World} {B q p mb : Nat} {v : Value} {ts : List Tm} (h : KAt w B q p mb v ts) : B ≤ w.heap.size := by
  have := blk_lt h.blk
  have := h.low
  omega
theorem lower {B : Nat} {w w' : World} (h : Below w.heap.size w w') (hB : B ≤ w.heap.size) : Below B w w' := ⟨h.os, h.tape, h.output, h.size, fun k hk => h.block k (by omega)⟩
theorem KRan.quiet {w w' : World} {B q p mb : Nat} {v : Value} {ts : List Tm} (h : KAt w B q p mb v ts) (hb : Below w.heap.size w w') : KRan w B q p mb v ts w' :=
  ⟨v, h.below hb, lower hb h.base, Kept.of_below hb _, .inl rfl⟩
theorem KRan.after {w w1 w2 : World} {B q p mb : Nat} {v : Value} {ts ts2 : List Tm} (h : KAt w B q p mb v ts) (hb : Below w.heap.size w w1) (k : KRan w1 B q p mb v ts2 w2) : KRan w B q p mb v ts2 w2 := by
  obtain ⟨v', h2, b2, k2, o2⟩ := k
  refine ⟨v', h2, (lower hb h.base).trans b2, (Kept.of_below hb _).then_ k2 (fun k hk => .inl hk), ?_⟩
  rcases o2 with e | ⟨k, e, hk⟩
  · exact .inl e
  · exact .inr ⟨k, e, Nat.le_trans hb.size hk⟩
theorem KRan.then_ {w w1 w2 : World} {B q p mb : Nat} {v : Value} {ts1 ts2 : List Tm} (h : KRan w B q p mb v ts1 w1) (k : ∀ v1, KAt w1 B q p mb v1 ts1 → KRan w1 B q p mb v1 ts2 w2) : KRan w B q p mb v ts2 w2 := by
  obtain ⟨v1, h1, b1, k1, o1⟩ := h
  obtain ⟨v2, h2, b2, k2, o2⟩ := k v1 h1
  refine ⟨v2, h2, b1.trans b2, k1.then_ k2 (fun k hk => foot_of hk o1), ?_⟩
  rcases o2 with e | ⟨k, e, hk⟩
  · rw [e]
    exact o1
  · exact .inr ⟨k, e, Nat.le_trans b1.size hk⟩
theorem KRan.of_ran {w W w' : World} {B q p mb : Nat} {v : Value} {ts ts2 : List Tm} (h : KAt w B q p mb v ts) (hb : Below w.heap.size w W) (k : Ran' W B p mb v ts2 w') : KRan w B q p mb v ts2 w' := KRan.after h hb ((h.below hb).ran k)
/-- What the call made since w stays as it is. -/
theorem ran_keeps {w W w' : World} {B q p mb : Nat} {v : Value} {ts ts2 : List Tm} (h : KAt w B q p mb v ts) (k : Ran' W B p mb v ts2 w') {b : Nat} {o : Obj} (h1 : w.heap.size ≤ b) (hb : W.heap[b]? = some o) : w'.heap[b]? = some o := by
  obtain ⟨v', _, _, hk, _⟩ := k
  exact blk_kept hb hk (fun hf => by have := h.pile.foot_lt hf; omega)
/-- A timer put into a block that the call has made. -/
theorem KRan.put {w W w' : World} {B q p mb : Nat} {v : Value} {ts ts2 : List Tm} (h : KAt w B q p mb v ts) (hb : Below w.heap.size w W) (k : Ran' W B p mb v ts2 w') {b : Nat} (h1 : w.heap.size ≤ b) (h2 : b < W.heap.size) (u0 u1 : Value) : KRan w B q p mb v ts2 ((w'.setCell ⟨b, 0, none⟩ u0).setCell ⟨b, 1, none⟩ u1) := by
  obtain ⟨v', k', b', kk, o⟩ := (h.below hb).ran k
  have hf : ¬ PFoot p mb v' b := fun e => by
    rcases foot_of (w := W) e o with e | e
    · have := h.pile.foot_lt e
      omega
    · omega
  have hq : q ≠ b := by have := blk_lt h.blk; omega
  have hB := h.base
  refine ⟨v', (k'.same (Below.heap_setCell _ _ _ q hq) (fun j hj => Below.heap_setCell _ _ _ j (fun e => hf (by rw [show b = j from e.symm]; exact hj)))).same (Below.heap_setCell _ _ _ q hq) (fun j hj => Below.heap_setCell _ _ _ j (fun e => hf (by rw [show b = j from e.symm]; exact hj))), (((lower hb hB).trans b').setCell (p := ⟨b, 0, none⟩) (by show B ≤ b; omega) u0).setCell (p := ⟨b, 1, none⟩) (by show B ≤ b; omega) u1, ((((Kept.of_below hb _).then_ kk (fun k hk => .inl hk))).setCell (p := ⟨b, 0, none⟩) (.inr h1) u0).setCell (p := ⟨b, 1, none⟩) (.inr h1) u1, ?_⟩
  rcases o with e | ⟨k, e, hk⟩
  · exact .inl e
  · exact .inr ⟨k, e, Nat.le_trans hb.size hk⟩
def popQ (ts : List Tm) (now : Int) : List Tm := if 0 < ts.length ∧ ts[0]!.f0 ≤ now then (popF ts).take (ts.length - 1) else ts
def popT (ts : List Tm) (now : Int) : Tm := if 0 < ts.length ∧ ts[0]!.f0 ≤ now then ts[0]! else ⟨0, 0⟩
def popB (ts : List Tm) (now : Int) : Bool := decide (0 < ts.length) && decide (ts[0]!.f0 ≤ now)
set_option maxRecDepth 100000 in
set_option maxHeartbeats 4000000 in
theorem qpop_calls (w : World) (B q p mb : Nat) (v : Value) (ts : List Tm) (now : Int) (hl : ts.length ≤ 1000000) (h : KAt w B q p mb v ts) :
    Calls Try.prog 10 #[.pointer (some ⟨q, 0, none⟩), .int .i64 now] w fun e w' => e = .returned (.tuple #[tval (popT ts now), .bool (popB ts now)]) ∧ KRan w B q p mb v (popQ ts now) w' := by
  have H := Lib.hid h
  have HL := Lib.hid hl
  have HF := fun V (hV : Below w.heap.size w V) => first_calls V B q p mb v ts (h.below hV)
  by_cases h0 : 0 < ts.length
  · by_cases h1 : ts[0]!.f0 ≤ now
    · rw [show popT ts now = ts[0]! from if_pos ⟨h0, h1⟩, show popB ts now = true by unfold popB; rw [decide_eq_true h0, decide_eq_true h1]; rfl, show popQ ts now = (popF ts).take (ts.length - 1) from if_pos ⟨h0, h1⟩]
      rw [decide_eq_true h0] at HF
      have HP := fun V (hV : KAt V B q p mb v ts) => hpop_calls V B p mb v ts (ts.length - 1) (by omega) hl hV.pile
      obtain ⟨rs, hrs⟩ : ∃ rs, rs = (popF ts).take (ts.length - 1) := ⟨_, rfl⟩
      obtain ⟨y, hy⟩ : ∃ y, y = tval (popF ts)[ts.length - 1]! := ⟨_, rfl⟩
      rw [← hrs]
      simp only [← hrs, ← hy] at HP
      obtain ⟨⟨x0, x1⟩, hx⟩ : ∃ x, x = ts[0]! := ⟨_, rfl⟩
      rw [← hx] at HF h1 ⊢
      have d1 : decide (now < x0) = false := decide_eq_false (by simpa using h1)
      unfold tval at HF ⊢
      have HF := Lib.hid HF
      have HP := Lib.hid HP
      clear h hrs hy hx h0 hl h1
      go_enter Try.func10, Try.ntmps10
      go_wp2_with (first | (go_at_call 11; refine (HF.out _ (below_alloc (Below.refl _ _) _)).mono ?_; rintro e w2 ⟨rfl, hb2⟩; have HB2 := Lib.hid hb2; have HW2 := Lib.hid (below_step (below_alloc (Below.refl w.heap.size w) (tobj ⟨0, 0⟩)) hb2); have q0 := cell_keep (H.out.below HW2.out).cell (tobj ⟨x0, x1⟩); clear hb2) | (go_at_call 21; refine (HP.out _ (H.out.below (below_alloc HW2.out (tobj ⟨x0, x1⟩)))).mono ?_; rintro e w4 ⟨rfl, hr4⟩; have X1 := ran_keeps H.out hr4 HW2.out.size (blk_new w2 (tobj ⟨x0, x1⟩)); have X0 := ran_keeps H.out hr4 (Nat.le_refl _) (blk_alloc (blk_below (blk_new w (tobj ⟨0, 0⟩)) HB2.out) (tobj ⟨x0, x1⟩)); obtain ⟨c0, c1, cf0, cf1⟩ := tobj_cells X0; obtain ⟨e0, e1, ef0, ef1⟩ := tobj_cells X1; have HX0 := Lib.hid X0; have HR4 := Lib.hid hr4; clear hr4 X0 X1))
      refine bodyPost_ret (results_cell2 rfl _ _ w.heap.size 34 #[.int .i64 x0, .int .i64 x1] (0, 0) _ rfl (tstore HX0.out ⟨x0, x1⟩) Try.underlying34 rfl (by kernel_rfl)) rfl ?_
      have hz : w.heap.size < (w2.alloc (tobj ⟨x0, x1⟩)).heap.size := by
        have := blk_lt (blk_alloc (blk_below (blk_new w (tobj ⟨0, 0⟩)) HB2.out) (tobj ⟨x0, x1⟩))
        exact this
      exact ⟨rfl, KRan.put H.out (below_alloc HW2.out _) HR4.out (Nat.le_refl _) hz _ _⟩
    · rw [show popT ts now = ⟨0, 0⟩ from if_neg (fun h => h1 h.2), show popB ts now = false by unfold popB; rw [decide_eq_false h1, Bool.and_false], show popQ ts now = ts from if_neg (fun h => h1 h.2)]
      rw [decide_eq_true h0] at HF
      obtain ⟨⟨x0, x1⟩, hx⟩ : ∃ x, x = ts[0]! := ⟨_, rfl⟩
      rw [← hx] at HF h1
      have d1 : decide (now < x0) = true := decide_eq_true (by simpa using h1)
      unfold tval at HF ⊢
      have HF := Lib.hid HF
      clear h hx h0 hl h1
      go_enter Try.func10, Try.ntmps10
      go_wp2_with (go_at_call 11; refine (HF.out _ (below_alloc (Below.refl _ _) _)).mono ?_; rintro e w2 ⟨rfl, hb2⟩; have HB2 := Lib.hid hb2; have HW2 := Lib.hid (below_step (below_alloc (Below.refl w.heap.size w) (tobj ⟨0, 0⟩)) hb2); obtain ⟨c0, c1, cf0, cf1⟩ := tobj_cells (blk_alloc (blk_below (blk_new w (tobj ⟨0, 0⟩)) hb2) (tobj ⟨x0, x1⟩)); clear hb2)
      refine bodyPost_ret (results_cell2 rfl _ _ w.heap.size 34 #[.int .i64 0, .int .i64 0] (0, 0) _ rfl (tstore (blk_alloc (blk_below (blk_new w (tobj ⟨0, 0⟩)) HB2.out) _) ⟨0, 0⟩) Try.underlying34 rfl (by kernel_rfl)) rfl ?_
      exact ⟨rfl, KRan.quiet H.out (((below_alloc HW2.out _).setCell (Nat.le_refl _) _).setCell (Nat.le_refl _) _)⟩
  · obtain rfl : ts = [] := List.eq_nil_of_length_eq_zero (by omega)
    rw [show popT [] now = ⟨0, 0⟩ from if_neg (fun h => h0 h.1), show popB [] now = false from rfl, show popQ [] now = [] from if_neg (fun h => h0 h.1)]
    rw [decide_eq_false h0, show ([] : List Tm)[0]! = ⟨0, 0⟩ from rfl] at HF
    unfold tval at HF ⊢
    have HF := Lib.hid HF
    clear h h0 hl
    go_enter Try.func10, Try.ntmps10
    go_wp2_with (go_at_call 11; refine (HF.out _ (below_alloc (Below.refl _ _) _)).mono ?_; rintro e w2 ⟨rfl, hb2⟩; have HB2 := Lib.hid hb2; have HW2 := Lib.hid (below_step (below_alloc (Below.refl w.heap.size w) (tobj ⟨0, 0⟩)) hb2); obtain ⟨c0, c1, cf0, cf1⟩ := tobj_cells (blk_alloc (blk_below (blk_new w (tobj ⟨0, 0⟩)) hb2) (tobj ⟨0, 0⟩)); clear hb2)
    refine bodyPost_ret (results_cell2 rfl _ _ w.heap.size 34 #[.int .i64 0, .int .i64 0] (0, 0) _ rfl (tstore (blk_alloc (blk_below (blk_new w (tobj ⟨0, 0⟩)) HB2.out) _) ⟨0, 0⟩) Try.underlying34 rfl (by kernel_rfl)) rfl ?_
    exact ⟨rfl, KRan.quiet H.out (((below_alloc HW2.out _).setCell (Nat.le_refl _) _).setCell (Nat.le_refl _) _)⟩
end Go.Proofs.Ytjoemkmckabpjaa.Pr
